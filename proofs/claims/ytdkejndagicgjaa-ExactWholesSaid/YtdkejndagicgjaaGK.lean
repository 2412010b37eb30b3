/- Merged texts: ExC, ExR, ExS. -/
import Derived.Test.YtdkejndagicgjaaGI
import Derived.Test.YtdkejndagicgjaaGE
namespace Go.Proofs.Ytdkejndagicgjaa
open Go.RowKit

/-- what a region keeps: two structs -/
def T2 (w : World) (b : Nat) (l1 l2 : List Value) (w' : World) : Prop := SB w' b l1 ∧ SB w' (b + 1) l2 ∧ Below b w w'
theorem gt1 {w : World} {n g : Nat} {l : List Value} (_ : SB w g l) (h : n + 1 < g) : n + 1 < g := h
section
variable {w w1 w2 : World} {b g : Nat} {l1 l2 : List Value}
theorem T2.nx (h : T2 w b l1 l2 w1) (hb : Below w1.heap.size w1 w2) : T2 w b l1 l2 w2 :=
  ⟨h.1.nx hb, h.2.1.nx hb, h.2.2.trans (hb.mono (by have := h.1.2; omega))⟩
theorem T2.dr (h : T2 w b l1 l2 w1) : T2 w b l1 l2 w1.drew := ⟨h.1, h.2.1, bdN h.2.2 1⟩
theorem T2.wr (h : T2 w b l1 l2 w1) (hg : b + 1 < g) (x y z : Value) : T2 w b l1 l2 (Go.Proofs.Ytdkejndagicgjaa.wr3 w1 g x y z) :=
  ⟨h.1.wr3 (by omega) x y z, h.2.1.wr3 (by omega) x y z, wr3_below h.2.2 (by omega) x y z⟩
theorem T2.re {o o' : Obj} (h : T2 w b l1 l2 (w1.alloc o)) (hg : b + 1 < w1.heap.size) : T2 w b l1 l2 (w1.alloc o') := by
  have e : ∀ (q : Obj) (k : Nat), k < w1.heap.size → (w1.alloc q).heap[k]? = w1.heap[k]? := fun q k hk => (bal w1 q).block k hk
  have hc : ∀ (p : Addr), p.block < w1.heap.size → (w1.alloc o').cell? p = (w1.alloc o).cell? p := fun p hp => ((bal w1 o').cell hp).trans ((bal w1 o).cell hp).symm
  have hf : ∀ (p : Addr), p.block < w1.heap.size → (w1.alloc o').frozen? p = (w1.alloc o).frozen? p := fun p hp => ((bal w1 o').frozen hp).trans ((bal w1 o).frozen hp).symm
  have hs : ∀ (k : Nat) (vs : List Value), k < w1.heap.size → SB (w1.alloc o) k vs → SB (w1.alloc o') k vs := fun k vs hk h =>
    ⟨fun i v hv => ⟨(hc ⟨k, i, none⟩ hk).trans (h.1 i v hv).1, (hf ⟨k, i, none⟩ hk).trans (h.1 i v hv).2⟩, by simp; omega⟩
  refine ⟨hs _ _ (by omega) h.1, hs _ _ hg h.2.1, ?_⟩
  have h3 := h.2.2
  exact ⟨h3.os, h3.tape, h3.output, by have := h3.size; simpa using this, fun k hk => by
    rw [e o' k (by omega), ← e o k (by omega)]; exact h3.block k hk⟩
theorem T2.new (w : World) (l1 l2 : List Value) (t1 t2 : TypeId) : T2 w w.heap.size l1 l2 ((w.alloc (.cells l1.toArray t1)).alloc (.cells l2.toArray t2)) := by
  have s1 := SB.new w l1 t1
  have s2 := SB.new (w.alloc (.cells l1.toArray t1)) l2 t2
  rw [show (w.alloc (.cells l1.toArray t1)).heap.size = w.heap.size + 1 by simp] at s2
  have B1 := bal w (.cells l1.toArray t1)
  have B2 := bal (w.alloc (.cells l1.toArray t1)) (.cells l2.toArray t2)
  exact ⟨s1.nx B2, s2, bt B1 B2⟩
end


set_option maxRecDepth 100000 in
set_option maxHeartbeats 16000000 in
theorem eorder_any (V U : Value) (x y : Rat) (w : World) (hx : RQ w w.heap.size V x) (hy : RQ w w.heap.size U y) (hb' : qw x + qw y ≤ 14000) :
    Calls Try.prog 72 #[V, U] w fun e w' => e = .returned (.int .i64 (cmpQ x y)) ∧ Below w.heap.size w w' := by
  obtain ⟨A1, c1, D1, d1, rfl, r1, r2⟩ := hx
  obtain ⟨A2, c2, D2, d2, rfl, r3, r4⟩ := hy
  have hx : RQ w w.heap.size (.agg #[.bool (qn x), .slice A1 (digs (qt x)).length c1, .slice D1 (digs (qd x)).length d1]) x := ⟨A1, c1, D1, d1, rfl, r1, r2⟩
  have k0 := T2.new w [.bool (qn x), .slice A1 (digs (qt x)).length c1, .slice D1 (digs (qd x)).length d1] [.bool (qn y), .slice A2 (digs (qt y)).length c2, .slice D2 (digs (qd y)).length d2] 24 24
  have hb : qw x + qw (-y) ≤ 14000 := by rw [qw_neg]; exact hb'
  have conjS : ∀ w', T2 w w.heap.size [.bool (qn x), .slice A1 (digs (qt x)).length c1, .slice D1 (digs (qd x)).length d1] [.bool (qn y), .slice A2 (digs (qt y)).length c2, .slice D2 (digs (qd y)).length d2] w' → w'.cell? ⟨w.heap.size, 0, none⟩ = some (.bool (qn x)) ∧ w'.cell? ⟨w.heap.size, 1, none⟩ = some (.slice A1 (digs (qt x)).length c1) ∧ w'.cell? ⟨w.heap.size, 2, none⟩ = some (.slice D1 (digs (qd x)).length d1) ∧ w'.cell? ⟨w.heap.size + 1, 0, none⟩ = some (.bool (qn y)) ∧ w'.cell? ⟨w.heap.size + 1, 1, none⟩ = some (.slice A2 (digs (qt y)).length c2) ∧ w'.cell? ⟨w.heap.size + 1, 2, none⟩ = some (.slice D2 (digs (qd y)).length d2) ∧ T2 w w.heap.size [.bool (qn x), .slice A1 (digs (qt x)).length c1, .slice D1 (digs (qd x)).length d1] [.bool (qn y), .slice A2 (digs (qt y)).length c2, .slice D2 (digs (qd y)).length d2] w' := fun w' h => ⟨h.1.cell 0, h.1.cell 1, h.1.cell 2, h.2.1.cell 0, h.2.1.cell 1, h.2.1.cell 2, h⟩
  obtain ⟨z, hz⟩ : ∃ z, Hid (cmpQ x y = z) := ⟨_, rfl⟩
  rw [hz.out]
  go_enter Try.func72, Try.ntmps72
  obtain ⟨W0, hW0⟩ : ∃ W0, W0 = (w.alloc (.cells #[.bool (qn x), .slice A1 (digs (qt x)).length c1, .slice D1 (digs (qd x)).length d1] 24)).alloc (.cells #[.bool (qn y), .slice A2 (digs (qt y)).length c2, .slice D2 (digs (qd y)).length d2] 24) := ⟨_, rfl⟩
  go_wp2_with fail
  rw [← hW0] at k0 ⊢
  clear hW0
  have z00 := k0.2.1.2
  go_upto_region 1 with fail
  go_cut [5] (fun s5 wx => ∃ (g : Nat) (A : Option Addr) (c : Nat) (D : Option Addr) (d : Nat), s5 = .pointer (some ⟨g, 0, none⟩) ∧ SB wx g [.bool (qn (x + -y)), .slice A (digs (qt (x + -y))).length c, .slice D (digs (qd (x + -y))).length d] ∧ Below w.heap.size w wx)
  case first =>
    have k0d := k0.dr
    have k0s := And.intro (k0d.1.cell 0) (And.intro (k0d.1.cell 1) (And.intro (k0d.1.cell 2) (And.intro (k0d.2.1.cell 0) (And.intro (k0d.2.1.cell 1) (And.intro (k0d.2.1.cell 2) (k0d))))))
    go_region_held3 (fun w' => w'.cell? ⟨w.heap.size, 0, none⟩ = some (.bool (qn x)) ∧ w'.cell? ⟨w.heap.size, 1, none⟩ = some (.slice A1 (digs (qt x)).length c1) ∧ w'.cell? ⟨w.heap.size, 2, none⟩ = some (.slice D1 (digs (qd x)).length d1) ∧ w'.cell? ⟨w.heap.size + 1, 0, none⟩ = some (.bool (qn y)) ∧ w'.cell? ⟨w.heap.size + 1, 1, none⟩ = some (.slice A2 (digs (qt y)).length c2) ∧ w'.cell? ⟨w.heap.size + 1, 2, none⟩ = some (.slice D2 (digs (qd y)).length d2) ∧ T2 w w.heap.size [.bool (qn x), .slice A1 (digs (qt x)).length c1, .slice D1 (digs (qd x)).length d1] [.bool (qn y), .slice A2 (digs (qt y)).length c2, .slice D2 (digs (qd y)).length d2] w')
      (first
        | with_reducible exact kws.out
        | with_reducible exact k0s
        | (have s1 := (by with_reducible assumption : _ ∧ _ ∧ _ ∧ _ ∧ _ ∧ _ ∧ T2 w w.heap.size [.bool (qn x), .slice A1 (digs (qt x)).length c1, .slice D1 (digs (qd x)).length d1] [.bool (qn y), .slice A2 (digs (qt y)).length c2, .slice D2 (digs (qd y)).length d2] _).2.2.2.2.2.2.nx BX; have q0_ := s1.1.cell 0; have q1_ := s1.1.cell 1; have q2_ := s1.1.cell 2; have q3_ := s1.2.1.cell 0; have q4_ := s1.2.1.cell 1; have q5_ := s1.2.1.cell 2; with_reducible exact ⟨q0_, q1_, q2_, q3_, q4_, q5_, s1⟩)
        | with_reducible exact conjS _ ((by with_reducible assumption : _ ∧ _ ∧ _ ∧ _ ∧ _ ∧ _ ∧ T2 w w.heap.size [.bool (qn x), .slice A1 (digs (qt x)).length c1, .slice D1 (digs (qd x)).length d1] [.bool (qn y), .slice A2 (digs (qt y)).length c2, .slice D2 (digs (qd y)).length d2] _).2.2.2.2.2.2.nx (bal _ _))
        | (with_reducible refine conjS _ (T2.re (by with_reducible assumption : _ ∧ _ ∧ _ ∧ _ ∧ _ ∧ _ ∧ T2 w w.heap.size [.bool (qn x), .slice A1 (digs (qt x)).length c1, .slice D1 (digs (qd x)).length d1] [.bool (qn y), .slice A2 (digs (qt y)).length c2, .slice D2 (digs (qd y)).length d2] _).2.2.2.2.2.2 ?_); assumption))
      (first
        | (go_at_call 60; have hh := (by with_reducible assumption : _ ∧ _ ∧ _ ∧ _ ∧ _ ∧ _ ∧ T2 w w.heap.size [.bool (qn x), .slice A1 (digs (qt x)).length c1, .slice D1 (digs (qd x)).length d1] [.bool (qn y), .slice A2 (digs (qt y)).length c2, .slice D2 (digs (qd y)).length d2] _).2.2.2.2.2.2; refine (minus_any y A2 D2 c2 d2 _).mono ?_; rintro e w12 ⟨rfl, BX⟩; have B12 := BX; have z12 := (hh.nx BX).2.1.2; (first | (have sg := sg.nx BX; have g0 := sg.cell 0; have g1 := sg.cell 1; have g2 := sg.cell 2; have h0 := sg.frozen 0; have h1 := sg.frozen 1; have h2 := sg.frozen 2) | (have sg := (SB.new _ [.bool false, .slice none 0 0, .slice none 0 0] 24).nx BX; have g0 := sg.cell 0; have g1 := sg.cell 1; have g2 := sg.cell 2; have h0 := sg.frozen 0; have h1 := sg.frozen 1; have h2 := sg.frozen 2) | (have sg := ((SB.new _ [.bool false, .slice none 0 0, .slice none 0 0] 24).nx (Below.drew (Below.refl _ _))).nx BX; have g0 := sg.cell 0; have g1 := sg.cell 1; have g2 := sg.cell 2; have h0 := sg.frozen 0; have h1 := sg.frozen 1; have h2 := sg.frozen 2) | skip))
        | ((first | have gl := sg.2 | skip); go_at_call 59; have hh := (by with_reducible assumption : _ ∧ _ ∧ _ ∧ _ ∧ _ ∧ _ ∧ T2 w w.heap.size [.bool (qn x), .slice A1 (digs (qt x)).length c1, .slice D1 (digs (qd x)).length d1] [.bool (qn y), .slice A2 (digs (qt y)).length c2, .slice D2 (digs (qd y)).length d2] _).2.2.2.2.2.2; refine (sum_any _ _ x (-y) _ (hx.st hh.2.2) ⟨A2, c2, D2, d2, rfl, by rw [q_neg_t]; exact st r3 hh.2.2, by rw [q_neg_d]; exact st r4 hh.2.2⟩ hb).mono ?_; rintro e w16 ⟨A16, c16, D16, d16, rfl, O16, P16, BX⟩; have B16 := BX; have z16 := (hh.nx BX).2.1.2; have kk := hh.nx BX; (first | (have sg := sg.nx BX; have g0 := sg.cell 0; have g1 := sg.cell 1; have g2 := sg.cell 2; have h0 := sg.frozen 0; have h1 := sg.frozen 1; have h2 := sg.frozen 2) | (have sg := (SB.new _ [.bool false, .slice none 0 0, .slice none 0 0] 24).nx BX; have g0 := sg.cell 0; have g1 := sg.cell 1; have g2 := sg.cell 2; have h0 := sg.frozen 0; have h1 := sg.frozen 1; have h2 := sg.frozen 2) | (have sg := ((SB.new _ [.bool false, .slice none 0 0, .slice none 0 0] 24).nx (Below.drew (Below.refl _ _))).nx BX; have g0 := sg.cell 0; have g1 := sg.cell 1; have g2 := sg.cell 2; have h0 := sg.frozen 0; have h1 := sg.frozen 1; have h2 := sg.frozen 2) | skip); (first | (have gz := gt1 (n := w.heap.size) sg (by first | assumption | (simp; omega)); have kw := Lib.hid (T2.wr kk gz (.bool (qn (x + -y))) (.slice A16 (digs (qt (x + -y))).length c16) (.slice D16 (digs (qd (x + -y))).length d16)); have kws := Lib.hid (conjS _ kw.out)) | skip)))
    all_goals
      go_wp2_with fail
      go_meet
      first
        | exact ⟨_, A16, c16, D16, d16, rfl, SB.new w16 _ _, (kk.nx (bal _ _)).2.2⟩
        | exact ⟨_, A16, c16, D16, d16, rfl, SB.put3 sg _ _ _, kw.out.2.2⟩
  case rest =>
    obtain ⟨g, A, c, D, d, rfl, sg, BZ⟩ := hcut
    have hz := hz.out
    unfold cmpQ at hz
    have g0 := sg.cell 0
    have g1 := sg.cell 1
    have ht : (digs (qt (x + -y))).length = 0 ↔ qt (x + -y) = 0 := digs_len0
    generalize qt (x + -y) = t at *
    generalize (digs t).length = n at *
    clear k0 sg hx hb hb' conjS r1 r2 r3 r4
    generalize qn (x + -y) = s at *
    cases s with
    | true =>
      rw [if_pos rfl] at hz
      subst hz
      go_wp2_with fail
      go_ret
      exact ⟨rfl, BZ⟩
    | false =>
      rw [if_neg (by simp)] at hz
      by_cases h0 : n = 0
      · rw [if_neg (by have := ht.1 h0; omega)] at hz
        subst hz
        subst h0
        go_wp2_with fail
        go_ret
        exact ⟨rfl, BZ⟩
      · rw [if_pos (by omega)] at hz
        subst hz
        have h1 : decide (0 < (n : Int)) = true := by simp; omega
        have h2 : (0 : Int) < (n : Int) := by omega
        go_wp2_with fail
        go_ret
        exact ⟨rfl, BZ⟩


def qcmpA (r i r' i' : Rw) : Int × Int := if chkN2 true r i r' i' = 0 then (cmpQ (qv r) (qv r'), 0) else (0, chkN2 true r i r' i')
set_option maxRecDepth 100000 in
set_option maxHeartbeats 4000000 in
theorem ecmp_bad (V U : Value) (r i r' i' : Rw) (w : World) (hV : VN w w.heap.size V r i) (hU : VN w w.heap.size U r' i') (hb : ¬ chkN2 true r i r' i' = 0) :
    Calls Try.prog 31 #[V, U] w fun e w' => e = .returned (.tuple #[.int .i64 0, .int .i64 (chkN2 true r i r' i')]) ∧ Below w.heap.size w w' := by
  obtain ⟨s1, a1, b1⟩ := r
  obtain ⟨s2, a2, b2⟩ := i
  obtain ⟨t1, g1, h1⟩ := r'
  obtain ⟨t2, g2, h2⟩ := i'
  obtain ⟨A1, c1, D1, d1, A2, c2, D2, d2, rfl, p1, p2, p3, p4⟩ := hV
  obtain ⟨E1, e1, F1, f1, E2, e2, F2, f2, rfl, p5, p6, p7, p8⟩ := hU
  dsimp only at p1 p2 p3 p4 p5 p6 p7 p8 ⊢
  have k0 := T2.new w [.bool s1, .slice A1 a1.length c1, .slice D1 b1.length d1, .bool s2, .slice A2 a2.length c2, .slice D2 b2.length d2] [.bool t1, .slice E1 g1.length e1, .slice F1 h1.length f1, .bool t2, .slice E2 g2.length e2, .slice F2 h2.length f2] 26 26
  have C0 := k0.2.2
  have z3 : ((w.alloc (.cells #[.bool s1, .slice A1 a1.length c1, .slice D1 b1.length d1, .bool s2, .slice A2 a2.length c2, .slice D2 b2.length d2] 26)).alloc (.cells #[.bool t1, .slice E1 g1.length e1, .slice F1 h1.length f1, .bool t2, .slice E2 g2.length e2, .slice F2 h2.length f2] 26)).heap.size = w.heap.size + 2 := by simp
  have Bs := bal ((w.alloc (.cells #[.bool s1, .slice A1 a1.length c1, .slice D1 b1.length d1, .bool s2, .slice A2 a2.length c2, .slice D2 b2.length d2] 26)).alloc (.cells #[.bool t1, .slice E1 g1.length e1, .slice F1 h1.length f1, .bool t2, .slice E2 g2.length e2, .slice F2 h2.length f2] 26)) (.cells #[.bool s1, .slice A1 a1.length c1, .slice D1 b1.length d1, .bool s2, .slice A2 a2.length c2, .slice D2 b2.length d2, .bool t1, .slice E1 g1.length e1, .slice F1 h1.length f1, .bool t2, .slice E2 g2.length e2, .slice F2 h2.length f2] 26)
  have sg := SB.new ((w.alloc (.cells #[.bool s1, .slice A1 a1.length c1, .slice D1 b1.length d1, .bool s2, .slice A2 a2.length c2, .slice D2 b2.length d2] 26)).alloc (.cells #[.bool t1, .slice E1 g1.length e1, .slice F1 h1.length f1, .bool t2, .slice E2 g2.length e2, .slice F2 h2.length f2] 26)) [.bool s1, .slice A1 a1.length c1, .slice D1 b1.length d1, .bool s2, .slice A2 a2.length c2, .slice D2 b2.length d2, .bool t1, .slice E1 g1.length e1, .slice F1 h1.length f1, .bool t2, .slice E2 g2.length e2, .slice F2 h2.length f2] 26
  rw [z3] at sg
  have C1 := bt C0 Bs
  have k1 := k0.nx Bs
  have hck := check2x_any true (w.heap.size + 2) _ _ _ _ _ _ _ _ _ _ _ _ _ _ _ _ _ _ _ _ _ _ _ _ _ _ _ _ _ sg (st p1 C1) (st p2 C1) (st p3 C1) (st p4 C1) (st p5 C1) (st p6 C1) (st p7 C1) (st p8 C1)
  generalize chkN2 true ⟨s1, a1, b1⟩ ⟨s2, a2, b2⟩ ⟨t1, g1, h1⟩ ⟨t2, g2, h2⟩ = k at *
  have hb2 : (k == 0) = false := beq_eq_false_iff_ne.2 hb
  clear sg k0 p1 p2 p3 p4 p5 p6 p7 p8
  go_enter Try.func31, Try.ntmps31
  go_wp2_with fail
  refine hck.mono ?_; rintro e w3 ⟨rfl, B3⟩
  clear hck
  go_wp2_with fail
  go_ret2
  exact ⟨rfl, bt C1 B3⟩
set_option maxRecDepth 100000 in
set_option maxHeartbeats 4000000 in
theorem ecmp_ok (V U : Value) (x y u v : Rat) (w : World) (hV : RN w w.heap.size V x y) (hU : RN w w.heap.size U u v) (bx : qw x ≤ 512) (bu : qw u ≤ 512) (hz : chkN2 true (rwq x) (rwq y) (rwq u) (rwq v) = 0) :
    Calls Try.prog 31 #[V, U] w fun e w' => e = .returned (.tuple #[.int .i64 (cmpQ x u), .int .i64 0]) ∧ Below w.heap.size w w' := by
  obtain ⟨A1, c1, D1, d1, A2, c2, D2, d2, rfl, p1, p2, p3, p4⟩ := hV
  obtain ⟨E1, e1, F1, f1, E2, e2, F2, f2, rfl, p5, p6, p7, p8⟩ := hU
  simp only [rwq] at p1 p2 p3 p4 p5 p6 p7 p8 hz ⊢
  have k0 := T2.new w [.bool (qn x), .slice A1 (digs (qt x)).length c1, .slice D1 (digs (qd x)).length d1, .bool (qn y), .slice A2 (digs (qt y)).length c2, .slice D2 (digs (qd y)).length d2] [.bool (qn u), .slice E1 (digs (qt u)).length e1, .slice F1 (digs (qd u)).length f1, .bool (qn v), .slice E2 (digs (qt v)).length e2, .slice F2 (digs (qd v)).length f2] 26 26
  have C0 := k0.2.2
  have z3 : ((w.alloc (.cells #[.bool (qn x), .slice A1 (digs (qt x)).length c1, .slice D1 (digs (qd x)).length d1, .bool (qn y), .slice A2 (digs (qt y)).length c2, .slice D2 (digs (qd y)).length d2] 26)).alloc (.cells #[.bool (qn u), .slice E1 (digs (qt u)).length e1, .slice F1 (digs (qd u)).length f1, .bool (qn v), .slice E2 (digs (qt v)).length e2, .slice F2 (digs (qd v)).length f2] 26)).heap.size = w.heap.size + 2 := by simp
  have Bs := bal ((w.alloc (.cells #[.bool (qn x), .slice A1 (digs (qt x)).length c1, .slice D1 (digs (qd x)).length d1, .bool (qn y), .slice A2 (digs (qt y)).length c2, .slice D2 (digs (qd y)).length d2] 26)).alloc (.cells #[.bool (qn u), .slice E1 (digs (qt u)).length e1, .slice F1 (digs (qd u)).length f1, .bool (qn v), .slice E2 (digs (qt v)).length e2, .slice F2 (digs (qd v)).length f2] 26)) (.cells #[.bool (qn x), .slice A1 (digs (qt x)).length c1, .slice D1 (digs (qd x)).length d1, .bool (qn y), .slice A2 (digs (qt y)).length c2, .slice D2 (digs (qd y)).length d2, .bool (qn u), .slice E1 (digs (qt u)).length e1, .slice F1 (digs (qd u)).length f1, .bool (qn v), .slice E2 (digs (qt v)).length e2, .slice F2 (digs (qd v)).length f2] 26)
  have sg := SB.new ((w.alloc (.cells #[.bool (qn x), .slice A1 (digs (qt x)).length c1, .slice D1 (digs (qd x)).length d1, .bool (qn y), .slice A2 (digs (qt y)).length c2, .slice D2 (digs (qd y)).length d2] 26)).alloc (.cells #[.bool (qn u), .slice E1 (digs (qt u)).length e1, .slice F1 (digs (qd u)).length f1, .bool (qn v), .slice E2 (digs (qt v)).length e2, .slice F2 (digs (qd v)).length f2] 26)) [.bool (qn x), .slice A1 (digs (qt x)).length c1, .slice D1 (digs (qd x)).length d1, .bool (qn y), .slice A2 (digs (qt y)).length c2, .slice D2 (digs (qd y)).length d2, .bool (qn u), .slice E1 (digs (qt u)).length e1, .slice F1 (digs (qd u)).length f1, .bool (qn v), .slice E2 (digs (qt v)).length e2, .slice F2 (digs (qd v)).length f2] 26
  rw [z3] at sg
  have C1 := bt C0 Bs
  have k1 := k0.nx Bs
  have hck := check2x_any true (w.heap.size + 2) _ _ _ _ _ _ _ _ _ _ _ _ _ _ _ _ _ _ _ _ _ _ _ _ _ _ _ _ _ sg (st p1 C1) (st p2 C1) (st p3 C1) (st p4 C1) (st p5 C1) (st p6 C1) (st p7 C1) (st p8 C1)
  rw [hz] at hck
  have ho := fun V U w' h1 h2 => eorder_any V U x u w' h1 h2 (by omega)
  generalize cmpQ x u = k at *
  clear sg k0 hz bx bu p3 p4 p7 p8
  go_enter Try.func31, Try.ntmps31
  go_wp2_with fail
  refine hck.mono ?_; rintro e w3 ⟨rfl, B3⟩
  clear hck
  have k3 := k1.nx B3
  have C3 := bt C1 B3
  have i0 := k3.1.cell 0
  have i1 := k3.1.cell 1
  have i2 := k3.1.cell 2
  have j0 := k3.2.1.cell 0
  have j1 := k3.2.1.cell 1
  have j2 := k3.2.1.cell 2
  go_wp2_with fail
  refine (ho _ _ _ ⟨A1, c1, D1, d1, rfl, st p1 C3, st p2 C3⟩ ⟨E1, e1, F1, f1, rfl, st p5 C3, st p6 C3⟩).mono ?_; rintro e w4 ⟨rfl, B4⟩
  go_wp2_with fail
  go_ret2
  exact ⟨rfl, bt C3 B4⟩
theorem chkN2_zero {r i r' i' : Rw} (h : chkN2 true r i r' i' = 0) : nB r i = true ∧ nB r' i' = true ∧ i.a = [] ∧ i'.a = [] := by
  unfold chkN2 at h
  split at h
  · next hn =>
    split at h
    · cases h
    · next hq =>
      refine ⟨hn.1, hn.2, ?_, ?_⟩ <;> apply List.eq_nil_of_length_eq_zero <;> (have := not_and.1 hq rfl; omega)
  · cases h
theorem ecmp_any {V U : Value} {r i r' i' : Rw} {w : World} (hV : VN w w.heap.size V r i) (hU : VN w w.heap.size U r' i') :
    Calls Try.prog 31 #[V, U] w fun e w' => e = .returned (.tuple #[.int .i64 (qcmpA r i r' i').1, .int .i64 (qcmpA r i r' i').2]) ∧ Below w.heap.size w w' := by
  unfold qcmpA
  by_cases h : chkN2 true r i r' i' = 0
  · rw [if_pos h]
    obtain ⟨n1, n2, _, _⟩ := chkN2_zero h
    obtain ⟨x, y, rfl, rfl, h1, h2⟩ := nB_rat n1
    obtain ⟨u, v, rfl, rfl, h3, h4⟩ := nB_rat n2
    rw [qv_rwq, qv_rwq]
    exact ecmp_ok V U x y u v w hV hU h1 h3 h
  · rw [if_neg h]
    exact ecmp_bad V U r i r' i' w hV hU h

end Go.Proofs.Ytdkejndagicgjaa
namespace Go.Proofs.Ytdkejndagicgjaa
open Go.RowKit


set_option maxRecDepth 100000 in
set_option maxHeartbeats 16000000 in
theorem rratOrder_any (V U : Value) (x y : Rat) (w : World) (hx : RQ w w.heap.size V x) (hy : RQ w w.heap.size U y) (hb' : qw x + qw y ≤ 14000) :
    Calls Try.prog 73 #[V, U] w fun e w' => e = .returned (.int .i64 (cmpQ x y)) ∧ Below w.heap.size w w' := by
  obtain ⟨A1, c1, D1, d1, rfl, r1, r2⟩ := hx
  obtain ⟨A2, c2, D2, d2, rfl, r3, r4⟩ := hy
  have hx : RQ w w.heap.size (.agg #[.bool (qn x), .slice A1 (digs (qt x)).length c1, .slice D1 (digs (qd x)).length d1]) x := ⟨A1, c1, D1, d1, rfl, r1, r2⟩
  have k0 := T2.new w [.bool (qn x), .slice A1 (digs (qt x)).length c1, .slice D1 (digs (qd x)).length d1] [.bool (qn y), .slice A2 (digs (qt y)).length c2, .slice D2 (digs (qd y)).length d2] 24 24
  have hb : qw x + qw (-y) ≤ 14000 := by rw [qw_neg]; exact hb'
  have conjS : ∀ w', T2 w w.heap.size [.bool (qn x), .slice A1 (digs (qt x)).length c1, .slice D1 (digs (qd x)).length d1] [.bool (qn y), .slice A2 (digs (qt y)).length c2, .slice D2 (digs (qd y)).length d2] w' → w'.cell? ⟨w.heap.size, 0, none⟩ = some (.bool (qn x)) ∧ w'.cell? ⟨w.heap.size, 1, none⟩ = some (.slice A1 (digs (qt x)).length c1) ∧ w'.cell? ⟨w.heap.size, 2, none⟩ = some (.slice D1 (digs (qd x)).length d1) ∧ w'.cell? ⟨w.heap.size + 1, 0, none⟩ = some (.bool (qn y)) ∧ w'.cell? ⟨w.heap.size + 1, 1, none⟩ = some (.slice A2 (digs (qt y)).length c2) ∧ w'.cell? ⟨w.heap.size + 1, 2, none⟩ = some (.slice D2 (digs (qd y)).length d2) ∧ T2 w w.heap.size [.bool (qn x), .slice A1 (digs (qt x)).length c1, .slice D1 (digs (qd x)).length d1] [.bool (qn y), .slice A2 (digs (qt y)).length c2, .slice D2 (digs (qd y)).length d2] w' := fun w' h => ⟨h.1.cell 0, h.1.cell 1, h.1.cell 2, h.2.1.cell 0, h.2.1.cell 1, h.2.1.cell 2, h⟩
  obtain ⟨z, hz⟩ : ∃ z, Hid (cmpQ x y = z) := ⟨_, rfl⟩
  rw [hz.out]
  go_enter Try.func73, Try.ntmps73
  obtain ⟨W0, hW0⟩ : ∃ W0, W0 = (w.alloc (.cells #[.bool (qn x), .slice A1 (digs (qt x)).length c1, .slice D1 (digs (qd x)).length d1] 24)).alloc (.cells #[.bool (qn y), .slice A2 (digs (qt y)).length c2, .slice D2 (digs (qd y)).length d2] 24) := ⟨_, rfl⟩
  go_wp2_with fail
  rw [← hW0] at k0 ⊢
  clear hW0
  have z00 := k0.2.1.2
  go_upto_region 1 with fail
  go_cut [5] (fun s5 wx => ∃ (g : Nat) (A : Option Addr) (c : Nat) (D : Option Addr) (d : Nat), s5 = .pointer (some ⟨g, 0, none⟩) ∧ SB wx g [.bool (qn (x + -y)), .slice A (digs (qt (x + -y))).length c, .slice D (digs (qd (x + -y))).length d] ∧ Below w.heap.size w wx)
  case first =>
    have k0d := k0.dr
    have k0s := And.intro (k0d.1.cell 0) (And.intro (k0d.1.cell 1) (And.intro (k0d.1.cell 2) (And.intro (k0d.2.1.cell 0) (And.intro (k0d.2.1.cell 1) (And.intro (k0d.2.1.cell 2) (k0d))))))
    go_region_held3 (fun w' => w'.cell? ⟨w.heap.size, 0, none⟩ = some (.bool (qn x)) ∧ w'.cell? ⟨w.heap.size, 1, none⟩ = some (.slice A1 (digs (qt x)).length c1) ∧ w'.cell? ⟨w.heap.size, 2, none⟩ = some (.slice D1 (digs (qd x)).length d1) ∧ w'.cell? ⟨w.heap.size + 1, 0, none⟩ = some (.bool (qn y)) ∧ w'.cell? ⟨w.heap.size + 1, 1, none⟩ = some (.slice A2 (digs (qt y)).length c2) ∧ w'.cell? ⟨w.heap.size + 1, 2, none⟩ = some (.slice D2 (digs (qd y)).length d2) ∧ T2 w w.heap.size [.bool (qn x), .slice A1 (digs (qt x)).length c1, .slice D1 (digs (qd x)).length d1] [.bool (qn y), .slice A2 (digs (qt y)).length c2, .slice D2 (digs (qd y)).length d2] w')
      (first
        | with_reducible exact kws.out
        | with_reducible exact k0s
        | (have s1 := (by with_reducible assumption : _ ∧ _ ∧ _ ∧ _ ∧ _ ∧ _ ∧ T2 w w.heap.size [.bool (qn x), .slice A1 (digs (qt x)).length c1, .slice D1 (digs (qd x)).length d1] [.bool (qn y), .slice A2 (digs (qt y)).length c2, .slice D2 (digs (qd y)).length d2] _).2.2.2.2.2.2.nx BX; have q0_ := s1.1.cell 0; have q1_ := s1.1.cell 1; have q2_ := s1.1.cell 2; have q3_ := s1.2.1.cell 0; have q4_ := s1.2.1.cell 1; have q5_ := s1.2.1.cell 2; with_reducible exact ⟨q0_, q1_, q2_, q3_, q4_, q5_, s1⟩)
        | with_reducible exact conjS _ ((by with_reducible assumption : _ ∧ _ ∧ _ ∧ _ ∧ _ ∧ _ ∧ T2 w w.heap.size [.bool (qn x), .slice A1 (digs (qt x)).length c1, .slice D1 (digs (qd x)).length d1] [.bool (qn y), .slice A2 (digs (qt y)).length c2, .slice D2 (digs (qd y)).length d2] _).2.2.2.2.2.2.nx (bal _ _))
        | (with_reducible refine conjS _ (T2.re (by with_reducible assumption : _ ∧ _ ∧ _ ∧ _ ∧ _ ∧ _ ∧ T2 w w.heap.size [.bool (qn x), .slice A1 (digs (qt x)).length c1, .slice D1 (digs (qd x)).length d1] [.bool (qn y), .slice A2 (digs (qt y)).length c2, .slice D2 (digs (qd y)).length d2] _).2.2.2.2.2.2 ?_); assumption))
      (first
        | (go_at_call 64; have hh := (by with_reducible assumption : _ ∧ _ ∧ _ ∧ _ ∧ _ ∧ _ ∧ T2 w w.heap.size [.bool (qn x), .slice A1 (digs (qt x)).length c1, .slice D1 (digs (qd x)).length d1] [.bool (qn y), .slice A2 (digs (qt y)).length c2, .slice D2 (digs (qd y)).length d2] _).2.2.2.2.2.2; refine (rminus_any y A2 D2 c2 d2 _).mono ?_; rintro e w12 ⟨rfl, BX⟩; have B12 := BX; have z12 := (hh.nx BX).2.1.2; (first | (have sg := sg.nx BX; have g0 := sg.cell 0; have g1 := sg.cell 1; have g2 := sg.cell 2; have h0 := sg.frozen 0; have h1 := sg.frozen 1; have h2 := sg.frozen 2) | (have sg := (SB.new _ [.bool false, .slice none 0 0, .slice none 0 0] 24).nx BX; have g0 := sg.cell 0; have g1 := sg.cell 1; have g2 := sg.cell 2; have h0 := sg.frozen 0; have h1 := sg.frozen 1; have h2 := sg.frozen 2) | (have sg := ((SB.new _ [.bool false, .slice none 0 0, .slice none 0 0] 24).nx (Below.drew (Below.refl _ _))).nx BX; have g0 := sg.cell 0; have g1 := sg.cell 1; have g2 := sg.cell 2; have h0 := sg.frozen 0; have h1 := sg.frozen 1; have h2 := sg.frozen 2) | skip))
        | ((first | have gl := sg.2 | skip); go_at_call 63; have hh := (by with_reducible assumption : _ ∧ _ ∧ _ ∧ _ ∧ _ ∧ _ ∧ T2 w w.heap.size [.bool (qn x), .slice A1 (digs (qt x)).length c1, .slice D1 (digs (qd x)).length d1] [.bool (qn y), .slice A2 (digs (qt y)).length c2, .slice D2 (digs (qd y)).length d2] _).2.2.2.2.2.2; refine (rsum_any _ _ x (-y) _ (hx.st hh.2.2) ⟨A2, c2, D2, d2, rfl, by rw [q_neg_t]; exact st r3 hh.2.2, by rw [q_neg_d]; exact st r4 hh.2.2⟩ hb).mono ?_; rintro e w16 ⟨A16, c16, D16, d16, rfl, O16, P16, BX⟩; have B16 := BX; have z16 := (hh.nx BX).2.1.2; have kk := hh.nx BX; (first | (have sg := sg.nx BX; have g0 := sg.cell 0; have g1 := sg.cell 1; have g2 := sg.cell 2; have h0 := sg.frozen 0; have h1 := sg.frozen 1; have h2 := sg.frozen 2) | (have sg := (SB.new _ [.bool false, .slice none 0 0, .slice none 0 0] 24).nx BX; have g0 := sg.cell 0; have g1 := sg.cell 1; have g2 := sg.cell 2; have h0 := sg.frozen 0; have h1 := sg.frozen 1; have h2 := sg.frozen 2) | (have sg := ((SB.new _ [.bool false, .slice none 0 0, .slice none 0 0] 24).nx (Below.drew (Below.refl _ _))).nx BX; have g0 := sg.cell 0; have g1 := sg.cell 1; have g2 := sg.cell 2; have h0 := sg.frozen 0; have h1 := sg.frozen 1; have h2 := sg.frozen 2) | skip); (first | (have gz := gt1 (n := w.heap.size) sg (by first | assumption | (simp; omega)); have kw := Lib.hid (T2.wr kk gz (.bool (qn (x + -y))) (.slice A16 (digs (qt (x + -y))).length c16) (.slice D16 (digs (qd (x + -y))).length d16)); have kws := Lib.hid (conjS _ kw.out)) | skip)))
    all_goals
      go_wp2_with fail
      go_meet
      first
        | exact ⟨_, A16, c16, D16, d16, rfl, SB.new w16 _ _, (kk.nx (bal _ _)).2.2⟩
        | exact ⟨_, A16, c16, D16, d16, rfl, SB.put3 sg _ _ _, kw.out.2.2⟩
  case rest =>
    obtain ⟨g, A, c, D, d, rfl, sg, BZ⟩ := hcut
    have hz := hz.out
    unfold cmpQ at hz
    have g0 := sg.cell 0
    have g1 := sg.cell 1
    have ht : (digs (qt (x + -y))).length = 0 ↔ qt (x + -y) = 0 := digs_len0
    have hzn : qt (x + -y) = 0 → qn (x + -y) = false := qn_zero
    generalize qt (x + -y) = t at *
    generalize (digs t).length = n at *
    clear k0 sg hx hb hb' conjS r1 r2 r3 r4
    generalize qn (x + -y) = s at *
    by_cases h0 : n = 0
    · have ht0 := ht.1 h0
      rw [hzn ht0, if_neg (by simp), if_neg (by omega)] at hz
      subst hz
      subst h0
      clear hzn ht ht0
      go_wp2_with fail
      go_ret
      exact ⟨rfl, BZ⟩
    · have ht0 : 0 < t := by omega
      have h1 : ((n : Int) == 0) = false := beq_eq_false_iff_ne.2 (by omega)
      clear ht hzn
      cases s with
      | true =>
        rw [if_pos rfl] at hz
        subst hz
        clear ht0
        go_wp2_with fail
        go_ret
        exact ⟨rfl, BZ⟩
      | false =>
        rw [if_neg (by simp), if_pos ht0] at hz
        subst hz
        clear ht0
        go_wp2_with fail
        go_ret
        exact ⟨rfl, BZ⟩


set_option maxHeartbeats 4000000 in
theorem risZero_any (V : Value) (r i : Rw) (w : World) (hV : VN w w.heap.size V r i) :
    Calls Try.prog 51 #[V] w fun e w' => e = .returned (.bool (zeroB r i)) ∧ Below w.heap.size w w' := by
  obtain ⟨s1, a1, b1⟩ := r
  obtain ⟨s2, a2, b2⟩ := i
  obtain ⟨A1, c1, D1, d1, A2, c2, D2, d2, rfl, p1, p2, p3, p4⟩ := hV
  dsimp only [zeroB] at p1 p2 p3 p4 ⊢
  have sg := SB.new w [.bool s1, .slice A1 a1.length c1, .slice D1 b1.length d1, .bool s2, .slice A2 a2.length c2, .slice D2 b2.length d2] 26
  have B1 := bal w (.cells #[.bool s1, .slice A1 a1.length c1, .slice D1 b1.length d1, .bool s2, .slice A2 a2.length c2, .slice D2 b2.length d2] 26)
  have m0 := sg.cell 1
  have m1 := sg.cell 4
  generalize hn : a1.length = n at *
  generalize hm : a2.length = m at *
  clear hn hm p1 p2 p3 p4 sg
  go_enter Try.func51, Try.ntmps51
  by_cases h1 : n = 0
  · subst h1
    by_cases h2 : m = 0
    · subst h2
      go_wp2_with fail
      go_ret
      exact ⟨by simp, B1⟩
    · have h3 : ((m : Int) == 0) = false := by simpa using h2
      go_wp2_with fail
      go_ret
      exact ⟨by simp, B1⟩
  · have h3 : ((n : Int) == 0) = false := by simpa using h1
    go_wp2_with fail
    go_ret
    exact ⟨by simp [h1], B1⟩
set_option maxHeartbeats 4000000 in
theorem rreal_any (V : Value) (r i : Rw) (w : World) (hV : VN w w.heap.size V r i) :
    Calls Try.prog 55 #[V] w fun e w' => e = .returned (.bool (decide (i.a.length = 0))) ∧ Below w.heap.size w w' := by
  obtain ⟨s1, a1, b1⟩ := r
  obtain ⟨s2, a2, b2⟩ := i
  obtain ⟨A1, c1, D1, d1, A2, c2, D2, d2, rfl, p1, p2, p3, p4⟩ := hV
  dsimp only at p1 p2 p3 p4 ⊢
  have sg := SB.new w [.bool s1, .slice A1 a1.length c1, .slice D1 b1.length d1, .bool s2, .slice A2 a2.length c2, .slice D2 b2.length d2] 26
  have B1 := bal w (.cells #[.bool s1, .slice A1 a1.length c1, .slice D1 b1.length d1, .bool s2, .slice A2 a2.length c2, .slice D2 b2.length d2] 26)
  have m1 := sg.cell 4
  generalize hm : a2.length = m at *
  clear hm p1 p2 p3 p4 sg
  go_enter Try.func55, Try.ntmps55
  by_cases h2 : m = 0
  · subst h2
    go_wp2_with fail
    go_ret
    exact ⟨by simp, B1⟩
  · have h3 : ((m : Int) == 0) = false := by simpa using h2
    go_wp2_with fail
    go_ret
    exact ⟨by simp [h2], B1⟩
def largeB (r i : Rw) : Bool := decide (512 < r.a.length) || (decide (512 < r.b.length) || (decide (512 < i.a.length) || decide (512 < i.b.length)))
set_option maxHeartbeats 4000000 in
theorem rlarge_any (V : Value) (r i : Rw) (w : World) (hV : VN w w.heap.size V r i) :
    Calls Try.prog 65 #[V] w fun e w' => e = .returned (.bool (largeB r i)) ∧ Below w.heap.size w w' := by
  obtain ⟨s1, a1, b1⟩ := r
  obtain ⟨s2, a2, b2⟩ := i
  obtain ⟨A1, c1, D1, d1, A2, c2, D2, d2, rfl, p1, p2, p3, p4⟩ := hV
  dsimp only [largeB] at p1 p2 p3 p4 ⊢
  have sg := SB.new w [.bool s1, .slice A1 a1.length c1, .slice D1 b1.length d1, .bool s2, .slice A2 a2.length c2, .slice D2 b2.length d2] 26
  have B1 := bal w (.cells #[.bool s1, .slice A1 a1.length c1, .slice D1 b1.length d1, .bool s2, .slice A2 a2.length c2, .slice D2 b2.length d2] 26)
  have m1 := sg.cell 1
  have m2 := sg.cell 2
  have m3 := sg.cell 4
  have m4 := sg.cell 5
  generalize a1.length = n1 at *
  generalize b1.length = n2 at *
  generalize a2.length = n3 at *
  generalize b2.length = n4 at *
  clear sg

  by_cases h1 : 512 < n1
  · have e1 : decide ((512 : Int) < (n1 : Int)) = true := by simp; omega
    have f1 : (512 : Int) < (n1 : Int) := by omega
    clear p1 p2 p3 p4
    go_enter Try.func65, Try.ntmps65
    go_wp2_with fail
    go_ret
    exact ⟨by simp [h1], B1⟩
  · have e1 : decide ((512 : Int) < (n1 : Int)) = false := by simp; omega
    have f1 : ¬ (512 : Int) < (n1 : Int) := by omega
    by_cases h2 : 512 < n2
    · have e2 : decide ((512 : Int) < (n2 : Int)) = true := by simp; omega
      have f2 : (512 : Int) < (n2 : Int) := by omega
      clear p1 p2 p3 p4
      go_enter Try.func65, Try.ntmps65
      go_wp2_with fail
      go_ret
      exact ⟨by simp, B1⟩
    · have e2 : decide ((512 : Int) < (n2 : Int)) = false := by simp; omega
      have f2 : ¬ (512 : Int) < (n2 : Int) := by omega
      by_cases h3 : 512 < n3
      · have e3 : decide ((512 : Int) < (n3 : Int)) = true := by simp; omega
        have f3 : (512 : Int) < (n3 : Int) := by omega
        clear p1 p2 p3 p4
        go_enter Try.func65, Try.ntmps65
        go_wp2_with fail
        go_ret
        exact ⟨by simp, B1⟩
      · have e3 : decide ((512 : Int) < (n3 : Int)) = false := by simp; omega
        have f3 : ¬ (512 : Int) < (n3 : Int) := by omega
        by_cases h4 : 512 < n4
        · have e4 : decide ((512 : Int) < (n4 : Int)) = true := by simp; omega
          have f4 : (512 : Int) < (n4 : Int) := by omega
          clear p1 p2 p3 p4
          go_enter Try.func65, Try.ntmps65
          go_wp2_with fail
          go_ret
          exact ⟨by simp, B1⟩
        · have e4 : decide ((512 : Int) < (n4 : Int)) = false := by simp; omega
          have f4 : ¬ (512 : Int) < (n4 : Int) := by omega
          clear p1 p2 p3 p4
          go_enter Try.func65, Try.ntmps65
          go_wp2_with fail
          go_ret
          exact ⟨by simp, B1⟩

-- what the reference's fit hands on: the same slices, or nothing
set_option maxRecDepth 100000 in
set_option maxHeartbeats 4000000 in
theorem rfitn_any (V : Value) (r i : Rw) (w : World) (hV : VN w w.heap.size V r i) :
    Calls Try.prog 47 #[V] w fun e w' => e = .returned (if largeB r i = true then .tuple #[.agg #[.bool false, .slice none 0 0, .slice none 0 0, .bool false, .slice none 0 0, .slice none 0 0], .int .i64 4] else .tuple #[V, .int .i64 0]) ∧ Below w.heap.size w w' := by
  obtain ⟨s1, a1, b1⟩ := r
  obtain ⟨s2, a2, b2⟩ := i
  obtain ⟨A1, c1, D1, d1, A2, c2, D2, d2, rfl, p1, p2, p3, p4⟩ := hV
  dsimp only at p1 p2 p3 p4 ⊢
  have k0 := S2.new w [.bool s1, .slice A1 a1.length c1, .slice D1 b1.length d1, .bool s2, .slice A2 a2.length c2, .slice D2 b2.length d2] [.bool false, .slice none 0 0, .slice none 0 0, .bool false, .slice none 0 0, .slice none 0 0] 26 26 6
  have hl := fun w' h => rlarge_any (.agg #[.bool s1, .slice A1 a1.length c1, .slice D1 b1.length d1, .bool s2, .slice A2 a2.length c2, .slice D2 b2.length d2]) ⟨s1, a1, b1⟩ ⟨s2, a2, b2⟩ w' h
  have C0 := k0.2.2
  have m0 := k0.1.cell 0
  have m1 := k0.1.cell 1
  have m2 := k0.1.cell 2
  have m3 := k0.1.cell 3
  have m4 := k0.1.cell 4
  have m5 := k0.1.cell 5
  generalize largeB ⟨s1, a1, b1⟩ ⟨s2, a2, b2⟩ = t at *
  cases t with
  | true =>
    rw [if_pos rfl]
    go_enter Try.func47, Try.ntmps47
    go_wp2_with fail
    refine (hl _ ⟨A1, c1, D1, d1, A2, c2, D2, d2, rfl, st p1 C0, st p2 C0, st p3 C0, st p4 C0⟩).mono ?_; rintro e w3 ⟨rfl, B3⟩
    have k3 := k0.nx B3
    have hRC := k3.2.1
    go_wp2_with (refine wp_st6 rfl (.tmp 2) (.tmp 6) rfl _ rfl _ _ _ _ _ _ rfl hRC rfl rfl rfl rfl rfl rfl ?_)
    have s6 := hRC.put6 (.bool false) (.slice none 0 0) (.slice none 0 0) (.bool false) (.slice none 0 0) (.slice none 0 0)
    have B6 := wr6_below (b := w.heap.size + 1) k3.2.2 (by omega) (.bool false) (.slice none 0 0) (.slice none 0 0) (.bool false) (.slice none 0 0) (.slice none 0 0)
    have r0' := s6.cell 0
    have r1' := s6.cell 1
    have r2' := s6.cell 2
    have r3' := s6.cell 3
    have r4' := s6.cell 4
    have r5' := s6.cell 5
    refine bodyPost_ret (v := .tuple #[.agg #[.bool false, .slice none 0 0, .slice none 0 0, .bool false, .slice none 0 0, .slice none 0 0], .int .i64 4]) (by simp [results, r0', r1', r2', r3', r4', r5', go_sem]) rfl ?_
    exact ⟨rfl, B6⟩
  | false =>
    rw [if_neg (by simp)]
    go_enter Try.func47, Try.ntmps47
    go_wp2_with fail
    refine (hl _ ⟨A1, c1, D1, d1, A2, c2, D2, d2, rfl, st p1 C0, st p2 C0, st p3 C0, st p4 C0⟩).mono ?_; rintro e w3 ⟨rfl, B3⟩
    have k3 := k0.nx B3
    clear m0 m1 m2 m3 m4 m5
    have m0 := k3.1.cell 0
    have m1 := k3.1.cell 1
    have m2 := k3.1.cell 2
    have m3 := k3.1.cell 3
    have m4 := k3.1.cell 4
    have m5 := k3.1.cell 5
    have hRC := k3.2.1
    go_wp2_with (refine wp_st6 rfl (.tmp 2) (.tmp 7) rfl _ rfl _ _ _ _ _ _ rfl hRC rfl rfl rfl rfl rfl rfl ?_)
    have s6 := hRC.put6 (.bool s1) (.slice A1 a1.length c1) (.slice D1 b1.length d1) (.bool s2) (.slice A2 a2.length c2) (.slice D2 b2.length d2)
    have B6 := wr6_below (b := w.heap.size + 1) k3.2.2 (by omega) (.bool s1) (.slice A1 a1.length c1) (.slice D1 b1.length d1) (.bool s2) (.slice A2 a2.length c2) (.slice D2 b2.length d2)
    have r0' := s6.cell 0
    have r1' := s6.cell 1
    have r2' := s6.cell 2
    have r3' := s6.cell 3
    have r4' := s6.cell 4
    have r5' := s6.cell 5
    refine bodyPost_ret (v := .tuple #[.agg #[.bool s1, .slice A1 a1.length c1, .slice D1 b1.length d1, .bool s2, .slice A2 a2.length c2, .slice D2 b2.length d2], .int .i64 0]) (by simp [results, r0', r1', r2', r3', r4', r5', go_sem]) rfl ?_
    exact ⟨rfl, B6⟩

end Go.Proofs.Ytdkejndagicgjaa
namespace Go.Proofs.Ytdkejndagicgjaa
open Go.RowKit

theorem RQ.parts {w : World} {B : Nat} {s : Bool} {A : Option Addr} {n c : Nat} {D : Option Addr} {m d : Nat} {q : Rat} (h : RQ w B (.agg #[.bool s, .slice A n c, .slice D m d]) q) : RW w B A c (digs (qt q)) ∧ RW w B D d (digs (qd q)) := by
  obtain ⟨A', c', D', d', e, h1, h2⟩ := h
  simp only [Value.agg.injEq, Array.mk.injEq, List.cons.injEq, Value.slice.injEq, and_true] at e
  obtain ⟨_, ⟨rfl, _, rfl⟩, rfl, _, rfl⟩ := e
  exact ⟨h1, h2⟩
theorem RQ.neg {w : World} {B : Nat} {s : Bool} {A : Option Addr} {n c : Nat} {D : Option Addr} {m d : Nat} {q : Rat} (h : RQ w B (.agg #[.bool s, .slice A n c, .slice D m d]) q) :
    RQ w B (.agg #[.bool (qn (-q)), .slice A (digs (qt (-q))).length c, .slice D (digs (qd (-q))).length d]) (-q) := by
  obtain ⟨h1, h2⟩ := h.parts
  exact ⟨A, c, D, d, rfl, by rw [q_neg_t]; exact h1, by rw [q_neg_d]; exact h2⟩
theorem S3.wr3 {w w1 : World} {b n g : Nat} {l1 l2 : List Value} (h : S3 w b l1 l2 n w1) (hg : b + 2 < g) (x y z : Value) : S3 w b l1 l2 n (Go.Proofs.Ytdkejndagicgjaa.wr3 w1 g x y z) :=
  ⟨h.1.wr3 (by omega) x y z, h.2.1.wr3 (by omega) x y z, (h.2.2.1.sb.wr3 (by omega) x y z).rc (by simp), wr3_below h.2.2.2 (by omega) x y z⟩
/-- what the second region keeps: besides, the first fraction -/
def P3 (w wc : World) (b : Nat) (l1 l2 : List Value) (n g : Nat) (l3 : List Value) (w' : World) : Prop := S3 w b l1 l2 n w' ∧ SB w' g l3 ∧ Below wc.heap.size wc w'
section
variable {w wc w1 w2 : World} {b n g g2 : Nat} {l1 l2 l3 : List Value}
theorem P3.nx (h : P3 w wc b l1 l2 n g l3 w1) (hb : Below w1.heap.size w1 w2) : P3 w wc b l1 l2 n g l3 w2 := ⟨h.1.nx hb, h.2.1.nx hb, bt h.2.2 hb⟩
theorem P3.dr (h : P3 w wc b l1 l2 n g l3 w1) : P3 w wc b l1 l2 n g l3 w1.drew := h.nx (Below.drew (Below.refl _ _))
theorem P3.wr3 (h : P3 w wc b l1 l2 n g l3 w1) (hg : b + 2 < g2 ∧ g < g2 ∧ wc.heap.size ≤ g2) (x y z : Value) : P3 w wc b l1 l2 n g l3 (Go.Proofs.Ytdkejndagicgjaa.wr3 w1 g2 x y z) :=
  ⟨h.1.wr3 hg.1 x y z, h.2.1.wr3 (by omega) x y z, wr3_below h.2.2 hg.2.2 x y z⟩
theorem sbre {o o' : Obj} {k : Nat} {vs : List Value} (hk : k < w1.heap.size) (h : SB (w1.alloc o) k vs) : SB (w1.alloc o') k vs :=
  ⟨fun i v hv => ⟨((((bal w1 o').cell (p := ⟨k, i, none⟩) hk).trans ((bal w1 o).cell (p := ⟨k, i, none⟩) hk).symm)).trans (h.1 i v hv).1, ((((bal w1 o').frozen (p := ⟨k, i, none⟩) hk).trans ((bal w1 o).frozen (p := ⟨k, i, none⟩) hk).symm)).trans (h.1 i v hv).2⟩, by simp; omega⟩
theorem P3.re {o o' : Obj} (h : P3 w wc b l1 l2 n g l3 (w1.alloc o)) (hg : b + 2 < w1.heap.size ∧ g < w1.heap.size ∧ wc.heap.size ≤ w1.heap.size) : P3 w wc b l1 l2 n g l3 (w1.alloc o') := by
  refine ⟨h.1.re hg.1, sbre hg.2.1 h.2.1, ?_⟩
  have h3 := h.2.2
  have e : ∀ (q : Obj) (k : Nat), k < w1.heap.size → (w1.alloc q).heap[k]? = w1.heap[k]? := fun q k hk => (bal w1 q).block k hk
  exact ⟨h3.os, h3.tape, h3.output, by have := h3.size; simpa using this, fun k hk => by
    rw [e o' k (by omega), ← e o k (by omega)]; exact h3.block k hk⟩
theorem gtp {l : List Value} (_ : SB w g2 l) (h : b + 2 < g2 ∧ g < g2 ∧ n ≤ g2) : b + 2 < g2 ∧ g < g2 ∧ n ≤ g2 := h
end


set_option maxRecDepth 100000 in
set_option maxHeartbeats 16000000 in
theorem rtimes_rat (V U : Value) (x y u v : Rat) (w : World) (hV : RN w w.heap.size V x y) (hU : RN w w.heap.size U u v)
    (b11 : qw x + qw u ≤ 6900) (b22 : qw y + qw v ≤ 6900) (b12 : qw x + qw v ≤ 6900) (b21 : qw y + qw u ≤ 6900) :
    Calls Try.prog 48 #[V, U] w (RetN w (rwq (x * u + -(y * v))) (rwq (x * v + y * u))) := by
  obtain ⟨A1, c1, D1, d1, A2, c2, D2, d2, rfl, p1, p2, p3, p4⟩ := hV
  obtain ⟨E1, e1, F1, f1, E2, e2, F2, f2, rfl, p5, p6, p7, p8⟩ := hU
  simp only [rwq] at p1 p2 p3 p4 p5 p6 p7 p8 ⊢
  have hx : RQ w w.heap.size (.agg #[.bool (qn x), .slice A1 (digs (qt x)).length c1, .slice D1 (digs (qd x)).length d1]) x := ⟨A1, c1, D1, d1, rfl, p1, p2⟩
  have hy : RQ w w.heap.size (.agg #[.bool (qn y), .slice A2 (digs (qt y)).length c2, .slice D2 (digs (qd y)).length d2]) y := ⟨A2, c2, D2, d2, rfl, p3, p4⟩
  have hu : RQ w w.heap.size (.agg #[.bool (qn u), .slice E1 (digs (qt u)).length e1, .slice F1 (digs (qd u)).length f1]) u := ⟨E1, e1, F1, f1, rfl, p5, p6⟩
  have hv : RQ w w.heap.size (.agg #[.bool (qn v), .slice E2 (digs (qt v)).length e2, .slice F2 (digs (qd v)).length f2]) v := ⟨E2, e2, F2, f2, rfl, p7, p8⟩
  have k0 := S3.new w [.bool (qn x), .slice A1 (digs (qt x)).length c1, .slice D1 (digs (qd x)).length d1, .bool (qn y), .slice A2 (digs (qt y)).length c2, .slice D2 (digs (qd y)).length d2] [.bool (qn u), .slice E1 (digs (qt u)).length e1, .slice F1 (digs (qd u)).length f1, .bool (qn v), .slice E2 (digs (qt v)).length e2, .slice F2 (digs (qd v)).length f2] [.bool false, .slice none 0 0, .slice none 0 0, .bool false, .slice none 0 0, .slice none 0 0] 26 26 26 6
  have m1 := qw_mul x u
  have m2 := qw_mul y v
  have m3 := qw_mul x v
  have m4 := qw_mul y u
  have hb1 : qw (x * u) + qw (-(y * v)) ≤ 14000 := by rw [qw_neg]; omega
  have hb2 : qw (x * v) + qw (y * u) ≤ 14000 := by omega
  clear m1 m2 m3 m4 p1 p2 p3 p4 p5 p6 p7 p8
  have conjS : ∀ w', S3 w w.heap.size [.bool (qn x), .slice A1 (digs (qt x)).length c1, .slice D1 (digs (qd x)).length d1, .bool (qn y), .slice A2 (digs (qt y)).length c2, .slice D2 (digs (qd y)).length d2] [.bool (qn u), .slice E1 (digs (qt u)).length e1, .slice F1 (digs (qd u)).length f1, .bool (qn v), .slice E2 (digs (qt v)).length e2, .slice F2 (digs (qd v)).length f2] 6 w' → w'.cell? ⟨w.heap.size, 0, none⟩ = some (.bool (qn x)) ∧ w'.cell? ⟨w.heap.size, 1, none⟩ = some (.slice A1 (digs (qt x)).length c1) ∧ w'.cell? ⟨w.heap.size, 2, none⟩ = some (.slice D1 (digs (qd x)).length d1) ∧ w'.cell? ⟨w.heap.size, 3, none⟩ = some (.bool (qn y)) ∧ w'.cell? ⟨w.heap.size, 4, none⟩ = some (.slice A2 (digs (qt y)).length c2) ∧ w'.cell? ⟨w.heap.size, 5, none⟩ = some (.slice D2 (digs (qd y)).length d2) ∧ w'.cell? ⟨w.heap.size + 1, 0, none⟩ = some (.bool (qn u)) ∧ w'.cell? ⟨w.heap.size + 1, 1, none⟩ = some (.slice E1 (digs (qt u)).length e1) ∧ w'.cell? ⟨w.heap.size + 1, 2, none⟩ = some (.slice F1 (digs (qd u)).length f1) ∧ w'.cell? ⟨w.heap.size + 1, 3, none⟩ = some (.bool (qn v)) ∧ w'.cell? ⟨w.heap.size + 1, 4, none⟩ = some (.slice E2 (digs (qt v)).length e2) ∧ w'.cell? ⟨w.heap.size + 1, 5, none⟩ = some (.slice F2 (digs (qd v)).length f2) ∧ S3 w w.heap.size [.bool (qn x), .slice A1 (digs (qt x)).length c1, .slice D1 (digs (qd x)).length d1, .bool (qn y), .slice A2 (digs (qt y)).length c2, .slice D2 (digs (qd y)).length d2] [.bool (qn u), .slice E1 (digs (qt u)).length e1, .slice F1 (digs (qd u)).length f1, .bool (qn v), .slice E2 (digs (qt v)).length e2, .slice F2 (digs (qd v)).length f2] 6 w' := fun w' h => ⟨h.1.cell 0, h.1.cell 1, h.1.cell 2, h.1.cell 3, h.1.cell 4, h.1.cell 5, h.2.1.cell 0, h.2.1.cell 1, h.2.1.cell 2, h.2.1.cell 3, h.2.1.cell 4, h.2.1.cell 5, h⟩
  go_enter Try.func48, Try.ntmps48
  obtain ⟨W0, hW0⟩ : ∃ W0, W0 = ((w.alloc (.cells #[.bool (qn x), .slice A1 (digs (qt x)).length c1, .slice D1 (digs (qd x)).length d1, .bool (qn y), .slice A2 (digs (qt y)).length c2, .slice D2 (digs (qd y)).length d2] 26)).alloc (.cells #[.bool (qn u), .slice E1 (digs (qt u)).length e1, .slice F1 (digs (qd u)).length f1, .bool (qn v), .slice E2 (digs (qt v)).length e2, .slice F2 (digs (qd v)).length f2] 26)).alloc (.cells #[.bool false, .slice none 0 0, .slice none 0 0, .bool false, .slice none 0 0, .slice none 0 0] 26) := ⟨_, rfl⟩
  go_wp2_with fail
  rw [← hW0] at k0 ⊢
  clear hW0
  have z00 := k0.2.2.1.2
  go_upto_region 1 with fail
  go_cut [5] (fun s5 wx => ∃ (g : Nat) (A : Option Addr) (c : Nat) (D : Option Addr) (d : Nat), s5 = .pointer (some ⟨g, 0, none⟩) ∧ SB wx g [.bool (qn (x * u + -(y * v))), .slice A (digs (qt (x * u + -(y * v)))).length c, .slice D (digs (qd (x * u + -(y * v)))).length d] ∧ S3 w w.heap.size [.bool (qn x), .slice A1 (digs (qt x)).length c1, .slice D1 (digs (qd x)).length d1, .bool (qn y), .slice A2 (digs (qt y)).length c2, .slice D2 (digs (qd y)).length d2] [.bool (qn u), .slice E1 (digs (qt u)).length e1, .slice F1 (digs (qd u)).length f1, .bool (qn v), .slice E2 (digs (qt v)).length e2, .slice F2 (digs (qd v)).length f2] 6 wx ∧ w.heap.size + 2 < g ∧ OW wx (w.heap.size + 3) A c (digs (qt (x * u + -(y * v)))) ∧ OW wx (w.heap.size + 3) D d (digs (qd (x * u + -(y * v)))))
  case first =>
    have k0d := k0.dr
    have k0s := And.intro (k0d.1.cell 0) (And.intro (k0d.1.cell 1) (And.intro (k0d.1.cell 2) (And.intro (k0d.1.cell 3) (And.intro (k0d.1.cell 4) (And.intro (k0d.1.cell 5) (And.intro (k0d.2.1.cell 0) (And.intro (k0d.2.1.cell 1) (And.intro (k0d.2.1.cell 2) (And.intro (k0d.2.1.cell 3) (And.intro (k0d.2.1.cell 4) (And.intro (k0d.2.1.cell 5) (k0d))))))))))))
    go_region_held3 (fun w' => w'.cell? ⟨w.heap.size, 0, none⟩ = some (.bool (qn x)) ∧ w'.cell? ⟨w.heap.size, 1, none⟩ = some (.slice A1 (digs (qt x)).length c1) ∧ w'.cell? ⟨w.heap.size, 2, none⟩ = some (.slice D1 (digs (qd x)).length d1) ∧ w'.cell? ⟨w.heap.size, 3, none⟩ = some (.bool (qn y)) ∧ w'.cell? ⟨w.heap.size, 4, none⟩ = some (.slice A2 (digs (qt y)).length c2) ∧ w'.cell? ⟨w.heap.size, 5, none⟩ = some (.slice D2 (digs (qd y)).length d2) ∧ w'.cell? ⟨w.heap.size + 1, 0, none⟩ = some (.bool (qn u)) ∧ w'.cell? ⟨w.heap.size + 1, 1, none⟩ = some (.slice E1 (digs (qt u)).length e1) ∧ w'.cell? ⟨w.heap.size + 1, 2, none⟩ = some (.slice F1 (digs (qd u)).length f1) ∧ w'.cell? ⟨w.heap.size + 1, 3, none⟩ = some (.bool (qn v)) ∧ w'.cell? ⟨w.heap.size + 1, 4, none⟩ = some (.slice E2 (digs (qt v)).length e2) ∧ w'.cell? ⟨w.heap.size + 1, 5, none⟩ = some (.slice F2 (digs (qd v)).length f2) ∧ S3 w w.heap.size [.bool (qn x), .slice A1 (digs (qt x)).length c1, .slice D1 (digs (qd x)).length d1, .bool (qn y), .slice A2 (digs (qt y)).length c2, .slice D2 (digs (qd y)).length d2] [.bool (qn u), .slice E1 (digs (qt u)).length e1, .slice F1 (digs (qd u)).length f1, .bool (qn v), .slice E2 (digs (qt v)).length e2, .slice F2 (digs (qd v)).length f2] 6 w')
      (first
        | with_reducible exact kws.out
        | with_reducible exact k0s
        | (have s1 := (by with_reducible assumption : _ ∧ _ ∧ _ ∧ _ ∧ _ ∧ _ ∧ _ ∧ _ ∧ _ ∧ _ ∧ _ ∧ _ ∧ S3 w w.heap.size [.bool (qn x), .slice A1 (digs (qt x)).length c1, .slice D1 (digs (qd x)).length d1, .bool (qn y), .slice A2 (digs (qt y)).length c2, .slice D2 (digs (qd y)).length d2] [.bool (qn u), .slice E1 (digs (qt u)).length e1, .slice F1 (digs (qd u)).length f1, .bool (qn v), .slice E2 (digs (qt v)).length e2, .slice F2 (digs (qd v)).length f2] 6 _).2.2.2.2.2.2.2.2.2.2.2.2.nx BX; have q0_ := s1.1.cell 0; have q1_ := s1.1.cell 1; have q2_ := s1.1.cell 2; have q3_ := s1.1.cell 3; have q4_ := s1.1.cell 4; have q5_ := s1.1.cell 5; have q6_ := s1.2.1.cell 0; have q7_ := s1.2.1.cell 1; have q8_ := s1.2.1.cell 2; have q9_ := s1.2.1.cell 3; have q10_ := s1.2.1.cell 4; have q11_ := s1.2.1.cell 5; with_reducible exact ⟨q0_, q1_, q2_, q3_, q4_, q5_, q6_, q7_, q8_, q9_, q10_, q11_, s1⟩)
        | with_reducible exact conjS _ ((by with_reducible assumption : _ ∧ _ ∧ _ ∧ _ ∧ _ ∧ _ ∧ _ ∧ _ ∧ _ ∧ _ ∧ _ ∧ _ ∧ S3 w w.heap.size [.bool (qn x), .slice A1 (digs (qt x)).length c1, .slice D1 (digs (qd x)).length d1, .bool (qn y), .slice A2 (digs (qt y)).length c2, .slice D2 (digs (qd y)).length d2] [.bool (qn u), .slice E1 (digs (qt u)).length e1, .slice F1 (digs (qd u)).length f1, .bool (qn v), .slice E2 (digs (qt v)).length e2, .slice F2 (digs (qd v)).length f2] 6 _).2.2.2.2.2.2.2.2.2.2.2.2.nx (bal _ _))
        | (with_reducible refine conjS _ (S3.re (by with_reducible assumption : _ ∧ _ ∧ _ ∧ _ ∧ _ ∧ _ ∧ _ ∧ _ ∧ _ ∧ _ ∧ _ ∧ _ ∧ S3 w w.heap.size [.bool (qn x), .slice A1 (digs (qt x)).length c1, .slice D1 (digs (qd x)).length d1, .bool (qn y), .slice A2 (digs (qt y)).length c2, .slice D2 (digs (qd y)).length d2] [.bool (qn u), .slice E1 (digs (qt u)).length e1, .slice F1 (digs (qd u)).length f1, .bool (qn v), .slice E2 (digs (qt v)).length e2, .slice F2 (digs (qd v)).length f2] 6 _).2.2.2.2.2.2.2.2.2.2.2.2 ?_); assumption))
      (first
        | (go_at_call_of 62 (Value.agg #[.bool (qn x), .slice A1 (digs (qt x)).length c1, .slice D1 (digs (qd x)).length d1]); have hh := (by with_reducible assumption : _ ∧ _ ∧ _ ∧ _ ∧ _ ∧ _ ∧ _ ∧ _ ∧ _ ∧ _ ∧ _ ∧ _ ∧ S3 w w.heap.size [.bool (qn x), .slice A1 (digs (qt x)).length c1, .slice D1 (digs (qd x)).length d1, .bool (qn y), .slice A2 (digs (qt y)).length c2, .slice D2 (digs (qd y)).length d2] [.bool (qn u), .slice E1 (digs (qt u)).length e1, .slice F1 (digs (qd u)).length f1, .bool (qn v), .slice E2 (digs (qt v)).length e2, .slice F2 (digs (qd v)).length f2] 6 _).2.2.2.2.2.2.2.2.2.2.2.2; refine (rproduct_any _ _ x u _ (hx.st hh.2.2.2) (hu.st hh.2.2.2) (by omega)).mono ?_; rintro e w14 ⟨A14, c14, D14, d14, rfl, O14, P14, BX⟩; have H14 : RQ w14 w14.heap.size (.agg #[.bool (qn (x * u)), .slice A14 (digs (qt (x * u))).length c14, .slice D14 (digs (qd (x * u))).length d14]) (x * u) := ⟨A14, c14, D14, d14, rfl, O14.rw, P14.rw⟩; have z14 := (hh.nx BX).2.2.1.2; (first | (have sg := sg.nx BX; have g0 := sg.cell 0; have g1 := sg.cell 1; have g2 := sg.cell 2; have h0 := sg.frozen 0; have h1 := sg.frozen 1; have h2 := sg.frozen 2) | (have sg := (SB.new _ [.bool false, .slice none 0 0, .slice none 0 0] 24).nx BX; have g0 := sg.cell 0; have g1 := sg.cell 1; have g2 := sg.cell 2; have h0 := sg.frozen 0; have h1 := sg.frozen 1; have h2 := sg.frozen 2) | (have sg := ((SB.new _ [.bool false, .slice none 0 0, .slice none 0 0] 24).nx (Below.drew (Below.refl _ _))).nx BX; have g0 := sg.cell 0; have g1 := sg.cell 1; have g2 := sg.cell 2; have h0 := sg.frozen 0; have h1 := sg.frozen 1; have h2 := sg.frozen 2) | skip))
        | (go_at_call_of 62 (Value.agg #[.bool (qn y), .slice A2 (digs (qt y)).length c2, .slice D2 (digs (qd y)).length d2]); have hh := (by with_reducible assumption : _ ∧ _ ∧ _ ∧ _ ∧ _ ∧ _ ∧ _ ∧ _ ∧ _ ∧ _ ∧ _ ∧ _ ∧ S3 w w.heap.size [.bool (qn x), .slice A1 (digs (qt x)).length c1, .slice D1 (digs (qd x)).length d1, .bool (qn y), .slice A2 (digs (qt y)).length c2, .slice D2 (digs (qd y)).length d2] [.bool (qn u), .slice E1 (digs (qt u)).length e1, .slice F1 (digs (qd u)).length f1, .bool (qn v), .slice E2 (digs (qt v)).length e2, .slice F2 (digs (qd v)).length f2] 6 _).2.2.2.2.2.2.2.2.2.2.2.2; refine (rproduct_any _ _ y v _ (hy.st hh.2.2.2) (hv.st hh.2.2.2) (by omega)).mono ?_; rintro e w15 ⟨A15, c15, D15, d15, rfl, O15, P15, BX⟩; have H15 : RQ w15 w15.heap.size (.agg #[.bool (qn (y * v)), .slice A15 (digs (qt (y * v))).length c15, .slice D15 (digs (qd (y * v))).length d15]) (y * v) := ⟨A15, c15, D15, d15, rfl, O15.rw, P15.rw⟩; have z15 := (hh.nx BX).2.2.1.2; (first | with_reducible (have H14 := H14.st BX) | with_reducible (have H14 := (H14.st (bal _ _)).st BX)); (first | (have sg := sg.nx BX; have g0 := sg.cell 0; have g1 := sg.cell 1; have g2 := sg.cell 2; have h0 := sg.frozen 0; have h1 := sg.frozen 1; have h2 := sg.frozen 2) | (have sg := (SB.new _ [.bool false, .slice none 0 0, .slice none 0 0] 24).nx BX; have g0 := sg.cell 0; have g1 := sg.cell 1; have g2 := sg.cell 2; have h0 := sg.frozen 0; have h1 := sg.frozen 1; have h2 := sg.frozen 2) | (have sg := ((SB.new _ [.bool false, .slice none 0 0, .slice none 0 0] 24).nx (Below.drew (Below.refl _ _))).nx BX; have g0 := sg.cell 0; have g1 := sg.cell 1; have g2 := sg.cell 2; have h0 := sg.frozen 0; have h1 := sg.frozen 1; have h2 := sg.frozen 2) | skip))
        | (go_at_call 64; have hh := (by with_reducible assumption : _ ∧ _ ∧ _ ∧ _ ∧ _ ∧ _ ∧ _ ∧ _ ∧ _ ∧ _ ∧ _ ∧ _ ∧ S3 w w.heap.size [.bool (qn x), .slice A1 (digs (qt x)).length c1, .slice D1 (digs (qd x)).length d1, .bool (qn y), .slice A2 (digs (qt y)).length c2, .slice D2 (digs (qd y)).length d2] [.bool (qn u), .slice E1 (digs (qt u)).length e1, .slice F1 (digs (qd u)).length f1, .bool (qn v), .slice E2 (digs (qt v)).length e2, .slice F2 (digs (qd v)).length f2] 6 _).2.2.2.2.2.2.2.2.2.2.2.2; refine (rminus_any (y * v) A15 D15 c15 d15 _).mono ?_; rintro e w16 ⟨rfl, BX⟩; have z16 := (hh.nx BX).2.2.1.2; (first | with_reducible (have H14 := H14.st BX) | with_reducible (have H14 := (H14.st (bal _ _)).st BX)); (first | with_reducible (have H15 := H15.st BX) | with_reducible (have H15 := (H15.st (bal _ _)).st BX)); (first | (have sg := sg.nx BX; have g0 := sg.cell 0; have g1 := sg.cell 1; have g2 := sg.cell 2; have h0 := sg.frozen 0; have h1 := sg.frozen 1; have h2 := sg.frozen 2) | (have sg := (SB.new _ [.bool false, .slice none 0 0, .slice none 0 0] 24).nx BX; have g0 := sg.cell 0; have g1 := sg.cell 1; have g2 := sg.cell 2; have h0 := sg.frozen 0; have h1 := sg.frozen 1; have h2 := sg.frozen 2) | (have sg := ((SB.new _ [.bool false, .slice none 0 0, .slice none 0 0] 24).nx (Below.drew (Below.refl _ _))).nx BX; have g0 := sg.cell 0; have g1 := sg.cell 1; have g2 := sg.cell 2; have h0 := sg.frozen 0; have h1 := sg.frozen 1; have h2 := sg.frozen 2) | skip))
        | ((first | have gl := sg.2 | skip); go_at_call 63; have hh := (by with_reducible assumption : _ ∧ _ ∧ _ ∧ _ ∧ _ ∧ _ ∧ _ ∧ _ ∧ _ ∧ _ ∧ _ ∧ _ ∧ S3 w w.heap.size [.bool (qn x), .slice A1 (digs (qt x)).length c1, .slice D1 (digs (qd x)).length d1, .bool (qn y), .slice A2 (digs (qt y)).length c2, .slice D2 (digs (qd y)).length d2] [.bool (qn u), .slice E1 (digs (qt u)).length e1, .slice F1 (digs (qd u)).length f1, .bool (qn v), .slice E2 (digs (qt v)).length e2, .slice F2 (digs (qd v)).length f2] 6 _).2.2.2.2.2.2.2.2.2.2.2.2; refine (rsum_any _ _ (x * u) (-(y * v)) _ (by first | with_reducible exact H14 | with_reducible exact H14.st (bal _ _)) (by first | with_reducible exact H15.neg | with_reducible exact (H15.st (bal _ _)).neg) hb1).mono ?_; rintro e w17 ⟨A17, c17, D17, d17, rfl, O17, P17, BX⟩; have z17 := (hh.nx BX).2.2.1.2; have hl := hh.2.2.1.2; have kk := hh.nx BX; (first | (have sg := sg.nx BX; have g0 := sg.cell 0; have g1 := sg.cell 1; have g2 := sg.cell 2; have h0 := sg.frozen 0; have h1 := sg.frozen 1; have h2 := sg.frozen 2) | (have sg := (SB.new _ [.bool false, .slice none 0 0, .slice none 0 0] 24).nx BX; have g0 := sg.cell 0; have g1 := sg.cell 1; have g2 := sg.cell 2; have h0 := sg.frozen 0; have h1 := sg.frozen 1; have h2 := sg.frozen 2) | (have sg := ((SB.new _ [.bool false, .slice none 0 0, .slice none 0 0] 24).nx (Below.drew (Below.refl _ _))).nx BX; have g0 := sg.cell 0; have g1 := sg.cell 1; have g2 := sg.cell 2; have h0 := sg.frozen 0; have h1 := sg.frozen 1; have h2 := sg.frozen 2) | skip); (first | (have gz := gtz (n := w.heap.size) sg (by first | assumption | (simp; omega)); have kw := Lib.hid (S3.wr3 kk gz (.bool (qn (x * u + -(y * v)))) (.slice A17 (digs (qt (x * u + -(y * v)))).length c17) (.slice D17 (digs (qd (x * u + -(y * v)))).length d17)); have kws := Lib.hid (conjS _ kw.out)) | skip)))
    all_goals
      go_wp2_with fail
      go_meet
      first
        | (have _hk := kw; exact ⟨_, A17, c17, D17, d17, rfl, SB.put3 sg _ _ _, kw.out, gz, (OW.put3 O17 gl _ _ _).base_le hl, (OW.put3 P17 gl _ _ _).base_le hl⟩)
        | (have _hk := kw; exact ⟨_, A17, c17, D17, d17, rfl, SB.put3 sg _ _ _, kw.out, gz, (OW.put3 O17 (by simp) _ _ _).base_le hl, (OW.put3 P17 (by simp) _ _ _).base_le hl⟩)
        | (refine ⟨_, A17, c17, D17, d17, rfl, SB.new w17 _ _, kk.nx (bal _ _), ?_, (O17.base_le hl).alloc _, (P17.base_le hl).alloc _⟩
           exact z17)
  case rest =>
    obtain ⟨g, A, c, D, d, rfl, sg, k1, hg, q1, q2⟩ := hcut
    clear k0 conjS z00
    have k2 : P3 w wc w.heap.size [.bool (qn x), .slice A1 (digs (qt x)).length c1, .slice D1 (digs (qd x)).length d1, .bool (qn y), .slice A2 (digs (qt y)).length c2, .slice D2 (digs (qd y)).length d2] [.bool (qn u), .slice E1 (digs (qt u)).length e1, .slice F1 (digs (qd u)).length f1, .bool (qn v), .slice E2 (digs (qt v)).length e2, .slice F2 (digs (qd v)).length f2] 6 g [.bool (qn (x * u + -(y * v))), .slice A (digs (qt (x * u + -(y * v)))).length c, .slice D (digs (qd (x * u + -(y * v)))).length d] wc := ⟨k1, sg, Below.refl _ _⟩
    have z20 := And.intro k2.1.2.2.1.2 (And.intro k2.2.1.2 (Nat.le_refl wc.heap.size))
    have conjT : ∀ w', P3 w wc w.heap.size [.bool (qn x), .slice A1 (digs (qt x)).length c1, .slice D1 (digs (qd x)).length d1, .bool (qn y), .slice A2 (digs (qt y)).length c2, .slice D2 (digs (qd y)).length d2] [.bool (qn u), .slice E1 (digs (qt u)).length e1, .slice F1 (digs (qd u)).length f1, .bool (qn v), .slice E2 (digs (qt v)).length e2, .slice F2 (digs (qd v)).length f2] 6 g [.bool (qn (x * u + -(y * v))), .slice A (digs (qt (x * u + -(y * v)))).length c, .slice D (digs (qd (x * u + -(y * v)))).length d] w' → w'.cell? ⟨w.heap.size, 0, none⟩ = some (.bool (qn x)) ∧ w'.cell? ⟨w.heap.size, 1, none⟩ = some (.slice A1 (digs (qt x)).length c1) ∧ w'.cell? ⟨w.heap.size, 2, none⟩ = some (.slice D1 (digs (qd x)).length d1) ∧ w'.cell? ⟨w.heap.size, 3, none⟩ = some (.bool (qn y)) ∧ w'.cell? ⟨w.heap.size, 4, none⟩ = some (.slice A2 (digs (qt y)).length c2) ∧ w'.cell? ⟨w.heap.size, 5, none⟩ = some (.slice D2 (digs (qd y)).length d2) ∧ w'.cell? ⟨w.heap.size + 1, 0, none⟩ = some (.bool (qn u)) ∧ w'.cell? ⟨w.heap.size + 1, 1, none⟩ = some (.slice E1 (digs (qt u)).length e1) ∧ w'.cell? ⟨w.heap.size + 1, 2, none⟩ = some (.slice F1 (digs (qd u)).length f1) ∧ w'.cell? ⟨w.heap.size + 1, 3, none⟩ = some (.bool (qn v)) ∧ w'.cell? ⟨w.heap.size + 1, 4, none⟩ = some (.slice E2 (digs (qt v)).length e2) ∧ w'.cell? ⟨w.heap.size + 1, 5, none⟩ = some (.slice F2 (digs (qd v)).length f2) ∧ P3 w wc w.heap.size [.bool (qn x), .slice A1 (digs (qt x)).length c1, .slice D1 (digs (qd x)).length d1, .bool (qn y), .slice A2 (digs (qt y)).length c2, .slice D2 (digs (qd y)).length d2] [.bool (qn u), .slice E1 (digs (qt u)).length e1, .slice F1 (digs (qd u)).length f1, .bool (qn v), .slice E2 (digs (qt v)).length e2, .slice F2 (digs (qd v)).length f2] 6 g [.bool (qn (x * u + -(y * v))), .slice A (digs (qt (x * u + -(y * v)))).length c, .slice D (digs (qd (x * u + -(y * v)))).length d] w' := fun w' h => ⟨h.1.1.cell 0, h.1.1.cell 1, h.1.1.cell 2, h.1.1.cell 3, h.1.1.cell 4, h.1.1.cell 5, h.1.2.1.cell 0, h.1.2.1.cell 1, h.1.2.1.cell 2, h.1.2.1.cell 3, h.1.2.1.cell 4, h.1.2.1.cell 5, h⟩
    clear sg k1
    go_upto_region 2 with fail
    go_cut [6] (fun s6 wx => ∃ (g' : Nat) (A' : Option Addr) (c' : Nat) (D' : Option Addr) (d' : Nat), s6 = .pointer (some ⟨g', 0, none⟩) ∧ SB wx g' [.bool (qn (x * v + y * u)), .slice A' (digs (qt (x * v + y * u))).length c', .slice D' (digs (qd (x * v + y * u))).length d'] ∧ P3 w wc w.heap.size [.bool (qn x), .slice A1 (digs (qt x)).length c1, .slice D1 (digs (qd x)).length d1, .bool (qn y), .slice A2 (digs (qt y)).length c2, .slice D2 (digs (qd y)).length d2] [.bool (qn u), .slice E1 (digs (qt u)).length e1, .slice F1 (digs (qd u)).length f1, .bool (qn v), .slice E2 (digs (qt v)).length e2, .slice F2 (digs (qd v)).length f2] 6 g [.bool (qn (x * u + -(y * v))), .slice A (digs (qt (x * u + -(y * v)))).length c, .slice D (digs (qd (x * u + -(y * v)))).length d] wx ∧ OW wx (w.heap.size + 3) A' c' (digs (qt (x * v + y * u))) ∧ OW wx (w.heap.size + 3) D' d' (digs (qd (x * v + y * u))))
    case first =>
      have k2d := k2.dr
      have k2s := And.intro (k2d.1.1.cell 0) (And.intro (k2d.1.1.cell 1) (And.intro (k2d.1.1.cell 2) (And.intro (k2d.1.1.cell 3) (And.intro (k2d.1.1.cell 4) (And.intro (k2d.1.1.cell 5) (And.intro (k2d.1.2.1.cell 0) (And.intro (k2d.1.2.1.cell 1) (And.intro (k2d.1.2.1.cell 2) (And.intro (k2d.1.2.1.cell 3) (And.intro (k2d.1.2.1.cell 4) (And.intro (k2d.1.2.1.cell 5) (k2d))))))))))))
      go_region_held3 (fun w' => w'.cell? ⟨w.heap.size, 0, none⟩ = some (.bool (qn x)) ∧ w'.cell? ⟨w.heap.size, 1, none⟩ = some (.slice A1 (digs (qt x)).length c1) ∧ w'.cell? ⟨w.heap.size, 2, none⟩ = some (.slice D1 (digs (qd x)).length d1) ∧ w'.cell? ⟨w.heap.size, 3, none⟩ = some (.bool (qn y)) ∧ w'.cell? ⟨w.heap.size, 4, none⟩ = some (.slice A2 (digs (qt y)).length c2) ∧ w'.cell? ⟨w.heap.size, 5, none⟩ = some (.slice D2 (digs (qd y)).length d2) ∧ w'.cell? ⟨w.heap.size + 1, 0, none⟩ = some (.bool (qn u)) ∧ w'.cell? ⟨w.heap.size + 1, 1, none⟩ = some (.slice E1 (digs (qt u)).length e1) ∧ w'.cell? ⟨w.heap.size + 1, 2, none⟩ = some (.slice F1 (digs (qd u)).length f1) ∧ w'.cell? ⟨w.heap.size + 1, 3, none⟩ = some (.bool (qn v)) ∧ w'.cell? ⟨w.heap.size + 1, 4, none⟩ = some (.slice E2 (digs (qt v)).length e2) ∧ w'.cell? ⟨w.heap.size + 1, 5, none⟩ = some (.slice F2 (digs (qd v)).length f2) ∧ P3 w wc w.heap.size [.bool (qn x), .slice A1 (digs (qt x)).length c1, .slice D1 (digs (qd x)).length d1, .bool (qn y), .slice A2 (digs (qt y)).length c2, .slice D2 (digs (qd y)).length d2] [.bool (qn u), .slice E1 (digs (qt u)).length e1, .slice F1 (digs (qd u)).length f1, .bool (qn v), .slice E2 (digs (qt v)).length e2, .slice F2 (digs (qd v)).length f2] 6 g [.bool (qn (x * u + -(y * v))), .slice A (digs (qt (x * u + -(y * v)))).length c, .slice D (digs (qd (x * u + -(y * v)))).length d] w')
        (first
          | with_reducible exact kws.out
          | with_reducible exact k2s
          | (have s1 := (by with_reducible assumption : _ ∧ _ ∧ _ ∧ _ ∧ _ ∧ _ ∧ _ ∧ _ ∧ _ ∧ _ ∧ _ ∧ _ ∧ P3 w wc w.heap.size [.bool (qn x), .slice A1 (digs (qt x)).length c1, .slice D1 (digs (qd x)).length d1, .bool (qn y), .slice A2 (digs (qt y)).length c2, .slice D2 (digs (qd y)).length d2] [.bool (qn u), .slice E1 (digs (qt u)).length e1, .slice F1 (digs (qd u)).length f1, .bool (qn v), .slice E2 (digs (qt v)).length e2, .slice F2 (digs (qd v)).length f2] 6 g [.bool (qn (x * u + -(y * v))), .slice A (digs (qt (x * u + -(y * v)))).length c, .slice D (digs (qd (x * u + -(y * v)))).length d] _).2.2.2.2.2.2.2.2.2.2.2.2.nx BX; have q0_ := s1.1.1.cell 0; have q1_ := s1.1.1.cell 1; have q2_ := s1.1.1.cell 2; have q3_ := s1.1.1.cell 3; have q4_ := s1.1.1.cell 4; have q5_ := s1.1.1.cell 5; have q6_ := s1.1.2.1.cell 0; have q7_ := s1.1.2.1.cell 1; have q8_ := s1.1.2.1.cell 2; have q9_ := s1.1.2.1.cell 3; have q10_ := s1.1.2.1.cell 4; have q11_ := s1.1.2.1.cell 5; with_reducible exact ⟨q0_, q1_, q2_, q3_, q4_, q5_, q6_, q7_, q8_, q9_, q10_, q11_, s1⟩)
          | with_reducible exact conjT _ ((by with_reducible assumption : _ ∧ _ ∧ _ ∧ _ ∧ _ ∧ _ ∧ _ ∧ _ ∧ _ ∧ _ ∧ _ ∧ _ ∧ P3 w wc w.heap.size [.bool (qn x), .slice A1 (digs (qt x)).length c1, .slice D1 (digs (qd x)).length d1, .bool (qn y), .slice A2 (digs (qt y)).length c2, .slice D2 (digs (qd y)).length d2] [.bool (qn u), .slice E1 (digs (qt u)).length e1, .slice F1 (digs (qd u)).length f1, .bool (qn v), .slice E2 (digs (qt v)).length e2, .slice F2 (digs (qd v)).length f2] 6 g [.bool (qn (x * u + -(y * v))), .slice A (digs (qt (x * u + -(y * v)))).length c, .slice D (digs (qd (x * u + -(y * v)))).length d] _).2.2.2.2.2.2.2.2.2.2.2.2.nx (bal _ _))
          | (with_reducible refine conjT _ (P3.re (by with_reducible assumption : _ ∧ _ ∧ _ ∧ _ ∧ _ ∧ _ ∧ _ ∧ _ ∧ _ ∧ _ ∧ _ ∧ _ ∧ P3 w wc w.heap.size [.bool (qn x), .slice A1 (digs (qt x)).length c1, .slice D1 (digs (qd x)).length d1, .bool (qn y), .slice A2 (digs (qt y)).length c2, .slice D2 (digs (qd y)).length d2] [.bool (qn u), .slice E1 (digs (qt u)).length e1, .slice F1 (digs (qd u)).length f1, .bool (qn v), .slice E2 (digs (qt v)).length e2, .slice F2 (digs (qd v)).length f2] 6 g [.bool (qn (x * u + -(y * v))), .slice A (digs (qt (x * u + -(y * v)))).length c, .slice D (digs (qd (x * u + -(y * v)))).length d] _).2.2.2.2.2.2.2.2.2.2.2.2 ?_); assumption))
        (first
          | (go_at_call_of 62 (Value.agg #[.bool (qn x), .slice A1 (digs (qt x)).length c1, .slice D1 (digs (qd x)).length d1]); have hh := (by with_reducible assumption : _ ∧ _ ∧ _ ∧ _ ∧ _ ∧ _ ∧ _ ∧ _ ∧ _ ∧ _ ∧ _ ∧ _ ∧ P3 w wc w.heap.size [.bool (qn x), .slice A1 (digs (qt x)).length c1, .slice D1 (digs (qd x)).length d1, .bool (qn y), .slice A2 (digs (qt y)).length c2, .slice D2 (digs (qd y)).length d2] [.bool (qn u), .slice E1 (digs (qt u)).length e1, .slice F1 (digs (qd u)).length f1, .bool (qn v), .slice E2 (digs (qt v)).length e2, .slice F2 (digs (qd v)).length f2] 6 g [.bool (qn (x * u + -(y * v))), .slice A (digs (qt (x * u + -(y * v)))).length c, .slice D (digs (qd (x * u + -(y * v)))).length d] _).2.2.2.2.2.2.2.2.2.2.2.2; refine (rproduct_any _ _ x v _ (hx.st hh.1.2.2.2) (hv.st hh.1.2.2.2) (by omega)).mono ?_; rintro e w24 ⟨A24, c24, D24, d24, rfl, O24, P24, BX⟩; have H24 : RQ w24 w24.heap.size (.agg #[.bool (qn (x * v)), .slice A24 (digs (qt (x * v))).length c24, .slice D24 (digs (qd (x * v))).length d24]) (x * v) := ⟨A24, c24, D24, d24, rfl, O24.rw, P24.rw⟩; have z24 := And.intro (hh.nx BX).1.2.2.1.2 (And.intro (hh.nx BX).2.1.2 (hh.nx BX).2.2.size); (first | (have sg := sg.nx BX; have g0 := sg.cell 0; have g1 := sg.cell 1; have g2 := sg.cell 2; have h0 := sg.frozen 0; have h1 := sg.frozen 1; have h2 := sg.frozen 2) | (have sg := (SB.new _ [.bool false, .slice none 0 0, .slice none 0 0] 24).nx BX; have g0 := sg.cell 0; have g1 := sg.cell 1; have g2 := sg.cell 2; have h0 := sg.frozen 0; have h1 := sg.frozen 1; have h2 := sg.frozen 2) | (have sg := ((SB.new _ [.bool false, .slice none 0 0, .slice none 0 0] 24).nx (Below.drew (Below.refl _ _))).nx BX; have g0 := sg.cell 0; have g1 := sg.cell 1; have g2 := sg.cell 2; have h0 := sg.frozen 0; have h1 := sg.frozen 1; have h2 := sg.frozen 2) | skip))
          | (go_at_call_of 62 (Value.agg #[.bool (qn y), .slice A2 (digs (qt y)).length c2, .slice D2 (digs (qd y)).length d2]); have hh := (by with_reducible assumption : _ ∧ _ ∧ _ ∧ _ ∧ _ ∧ _ ∧ _ ∧ _ ∧ _ ∧ _ ∧ _ ∧ _ ∧ P3 w wc w.heap.size [.bool (qn x), .slice A1 (digs (qt x)).length c1, .slice D1 (digs (qd x)).length d1, .bool (qn y), .slice A2 (digs (qt y)).length c2, .slice D2 (digs (qd y)).length d2] [.bool (qn u), .slice E1 (digs (qt u)).length e1, .slice F1 (digs (qd u)).length f1, .bool (qn v), .slice E2 (digs (qt v)).length e2, .slice F2 (digs (qd v)).length f2] 6 g [.bool (qn (x * u + -(y * v))), .slice A (digs (qt (x * u + -(y * v)))).length c, .slice D (digs (qd (x * u + -(y * v)))).length d] _).2.2.2.2.2.2.2.2.2.2.2.2; refine (rproduct_any _ _ y u _ (hy.st hh.1.2.2.2) (hu.st hh.1.2.2.2) (by omega)).mono ?_; rintro e w25 ⟨A25, c25, D25, d25, rfl, O25, P25, BX⟩; have H25 : RQ w25 w25.heap.size (.agg #[.bool (qn (y * u)), .slice A25 (digs (qt (y * u))).length c25, .slice D25 (digs (qd (y * u))).length d25]) (y * u) := ⟨A25, c25, D25, d25, rfl, O25.rw, P25.rw⟩; have z25 := And.intro (hh.nx BX).1.2.2.1.2 (And.intro (hh.nx BX).2.1.2 (hh.nx BX).2.2.size); (first | with_reducible (have H24 := H24.st BX) | with_reducible (have H24 := (H24.st (bal _ _)).st BX)); (first | (have sg := sg.nx BX; have g0 := sg.cell 0; have g1 := sg.cell 1; have g2 := sg.cell 2; have h0 := sg.frozen 0; have h1 := sg.frozen 1; have h2 := sg.frozen 2) | (have sg := (SB.new _ [.bool false, .slice none 0 0, .slice none 0 0] 24).nx BX; have g0 := sg.cell 0; have g1 := sg.cell 1; have g2 := sg.cell 2; have h0 := sg.frozen 0; have h1 := sg.frozen 1; have h2 := sg.frozen 2) | (have sg := ((SB.new _ [.bool false, .slice none 0 0, .slice none 0 0] 24).nx (Below.drew (Below.refl _ _))).nx BX; have g0 := sg.cell 0; have g1 := sg.cell 1; have g2 := sg.cell 2; have h0 := sg.frozen 0; have h1 := sg.frozen 1; have h2 := sg.frozen 2) | skip))
          | ((first | have gl := sg.2 | skip); go_at_call 63; have hh := (by with_reducible assumption : _ ∧ _ ∧ _ ∧ _ ∧ _ ∧ _ ∧ _ ∧ _ ∧ _ ∧ _ ∧ _ ∧ _ ∧ P3 w wc w.heap.size [.bool (qn x), .slice A1 (digs (qt x)).length c1, .slice D1 (digs (qd x)).length d1, .bool (qn y), .slice A2 (digs (qt y)).length c2, .slice D2 (digs (qd y)).length d2] [.bool (qn u), .slice E1 (digs (qt u)).length e1, .slice F1 (digs (qd u)).length f1, .bool (qn v), .slice E2 (digs (qt v)).length e2, .slice F2 (digs (qd v)).length f2] 6 g [.bool (qn (x * u + -(y * v))), .slice A (digs (qt (x * u + -(y * v)))).length c, .slice D (digs (qd (x * u + -(y * v)))).length d] _).2.2.2.2.2.2.2.2.2.2.2.2; refine (rsum_any _ _ (x * v) (y * u) _ (by first | with_reducible exact H24 | with_reducible exact H24.st (bal _ _)) (by first | with_reducible exact H25 | with_reducible exact H25.st (bal _ _)) hb2).mono ?_; rintro e w27 ⟨A27, c27, D27, d27, rfl, O27, P27, BX⟩; have z27 := And.intro (hh.nx BX).1.2.2.1.2 (And.intro (hh.nx BX).2.1.2 (hh.nx BX).2.2.size); have hl := hh.1.2.2.1.2; have kk := hh.nx BX; (first | (have sg := sg.nx BX; have g0 := sg.cell 0; have g1 := sg.cell 1; have g2 := sg.cell 2; have h0 := sg.frozen 0; have h1 := sg.frozen 1; have h2 := sg.frozen 2) | (have sg := (SB.new _ [.bool false, .slice none 0 0, .slice none 0 0] 24).nx BX; have g0 := sg.cell 0; have g1 := sg.cell 1; have g2 := sg.cell 2; have h0 := sg.frozen 0; have h1 := sg.frozen 1; have h2 := sg.frozen 2) | (have sg := ((SB.new _ [.bool false, .slice none 0 0, .slice none 0 0] 24).nx (Below.drew (Below.refl _ _))).nx BX; have g0 := sg.cell 0; have g1 := sg.cell 1; have g2 := sg.cell 2; have h0 := sg.frozen 0; have h1 := sg.frozen 1; have h2 := sg.frozen 2) | skip); (first | (have gz := gtp (b := w.heap.size) (g := g) (n := wc.heap.size) sg (by first | assumption | (simp; omega)); have kw := Lib.hid (P3.wr3 kk gz (.bool (qn (x * v + y * u))) (.slice A27 (digs (qt (x * v + y * u))).length c27) (.slice D27 (digs (qd (x * v + y * u))).length d27)); have kws := Lib.hid (conjT _ kw.out)) | skip)))
      all_goals
        go_wp2_with fail
        go_meet
        first
          | (have _hk := kw; exact ⟨_, A27, c27, D27, d27, rfl, SB.put3 sg _ _ _, kw.out, (OW.put3 O27 gl _ _ _).base_le hl, (OW.put3 P27 gl _ _ _).base_le hl⟩)
          | (have _hk := kw; exact ⟨_, A27, c27, D27, d27, rfl, SB.put3 sg _ _ _, kw.out, (OW.put3 O27 (by simp) _ _ _).base_le hl, (OW.put3 P27 (by simp) _ _ _).base_le hl⟩)
          | exact ⟨_, A27, c27, D27, d27, rfl, SB.new w27 _ _, kk.nx (bal _ _), (O27.base_le hl).alloc _, (P27.base_le hl).alloc _⟩
    case rest =>
      obtain ⟨g', A', c', D', d', rfl, sg', k3, q3, q4⟩ := hcut
      have q1' := q1.below k3.2.2 (Nat.le_refl _)
      have q2' := q2.below k3.2.2 (Nat.le_refl _)
      clear q1 q2 k2 z20 conjT
      generalize (x * u + -(y * v)) = X at *
      generalize (x * v + y * u) = Y at *
      have i0 := k3.2.1.cell 0
      have i1 := k3.2.1.cell 1
      have i2 := k3.2.1.cell 2
      have j0 := sg'.cell 0
      have j1 := sg'.cell 1
      have j2 := sg'.cell 2
      have hRC := k3.1.2.2.1
      go_wp2_with (refine wp_st6 rfl (.tmp 4) (.tmp 32) rfl _ rfl _ _ _ _ _ _ rfl hRC rfl rfl rfl rfl rfl rfl ?_)
      have s6 := hRC.put6 (.bool (qn X)) (.slice A (digs (qt X)).length c) (.slice D (digs (qd X)).length d) (.bool (qn Y)) (.slice A' (digs (qt Y)).length c') (.slice D' (digs (qd Y)).length d')
      have B6 := wr6_below (b := w.heap.size + 2) k3.1.2.2.2 (by omega) (.bool (qn X)) (.slice A (digs (qt X)).length c) (.slice D (digs (qd X)).length d) (.bool (qn Y)) (.slice A' (digs (qt Y)).length c') (.slice D' (digs (qd Y)).length d')
      have Oa := q1'.put6 (b := w.heap.size + 2) (by omega) (.bool (qn X)) (.slice A (digs (qt X)).length c) (.slice D (digs (qd X)).length d) (.bool (qn Y)) (.slice A' (digs (qt Y)).length c') (.slice D' (digs (qd Y)).length d')
      have Ob := q2'.put6 (b := w.heap.size + 2) (by omega) (.bool (qn X)) (.slice A (digs (qt X)).length c) (.slice D (digs (qd X)).length d) (.bool (qn Y)) (.slice A' (digs (qt Y)).length c') (.slice D' (digs (qd Y)).length d')
      have Oc := q3.put6 (b := w.heap.size + 2) (by omega) (.bool (qn X)) (.slice A (digs (qt X)).length c) (.slice D (digs (qd X)).length d) (.bool (qn Y)) (.slice A' (digs (qt Y)).length c') (.slice D' (digs (qd Y)).length d')
      have Od := q4.put6 (b := w.heap.size + 2) (by omega) (.bool (qn X)) (.slice A (digs (qt X)).length c) (.slice D (digs (qd X)).length d) (.bool (qn Y)) (.slice A' (digs (qt Y)).length c') (.slice D' (digs (qd Y)).length d')
      have r0' := s6.cell 0
      have r1' := s6.cell 1
      have r2' := s6.cell 2
      have r3' := s6.cell 3
      have r4' := s6.cell 4
      have r5' := s6.cell 5
      refine bodyPost_ret (v := .agg #[.bool (qn X), .slice A (digs (qt X)).length c, .slice D (digs (qd X)).length d, .bool (qn Y), .slice A' (digs (qt Y)).length c', .slice D' (digs (qd Y)).length d']) (by simp [results, r0', r1', r2', r3', r4', r5', go_sem]) rfl ?_
      exact ⟨A, c, D, d, A', c', D', d', rfl, Oa.base_le (by omega), Ob.base_le (by omega), Oc.base_le (by omega), Od.base_le (by omega), B6⟩

end Go.Proofs.Ytdkejndagicgjaa
