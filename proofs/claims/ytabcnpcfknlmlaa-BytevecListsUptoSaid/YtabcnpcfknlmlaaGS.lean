/- Merged texts: ExR, ExS, ExJ, ExK, ExW, ExP, EzX, BvS, BvT, BvU. -/
import Derived.Test.YtabcnpcfknlmlaaGI
import Derived.Test.YtabcnpcfknlmlaaGE
import Derived.Test.YtabcnpcfknlmlaaGH
import Derived.Test.YtabcnpcfknlmlaaGR
import Derived.Test.YtabcnpcfknlmlaaGF
import Derived.StillTail
import Derived.Test.YtabcnpcfknlmlaaGQ
namespace Go.Proofs.Ytabcnpcfknlmlaa
open Go.RowKit


set_option maxRecDepth 100000 in
set_option maxHeartbeats 16000000 in
theorem rratOrder_any (V U : Value) (x y : Rat) (w : World) (hx : RQ w w.heap.size V x) (hy : RQ w w.heap.size U y) (hb' : qw x + qw y ≤ 14000) :
    Calls Try.prog 69 #[V, U] w fun e w' => e = .returned (.int .i64 (cmpQ x y)) ∧ Below w.heap.size w w' := by
  obtain ⟨A1, c1, D1, d1, rfl, r1, r2⟩ := hx
  obtain ⟨A2, c2, D2, d2, rfl, r3, r4⟩ := hy
  have hx : RQ w w.heap.size (.agg #[.bool (qn x), .slice A1 (digs (qt x)).length c1, .slice D1 (digs (qd x)).length d1]) x := ⟨A1, c1, D1, d1, rfl, r1, r2⟩
  have k0 := T2.new w [.bool (qn x), .slice A1 (digs (qt x)).length c1, .slice D1 (digs (qd x)).length d1] [.bool (qn y), .slice A2 (digs (qt y)).length c2, .slice D2 (digs (qd y)).length d2] 25 25
  have hb : qw x + qw (-y) ≤ 14000 := by rw [qw_neg]; exact hb'
  have conjS : ∀ w', T2 w w.heap.size [.bool (qn x), .slice A1 (digs (qt x)).length c1, .slice D1 (digs (qd x)).length d1] [.bool (qn y), .slice A2 (digs (qt y)).length c2, .slice D2 (digs (qd y)).length d2] w' → w'.cell? ⟨w.heap.size, 0, none⟩ = some (.bool (qn x)) ∧ w'.cell? ⟨w.heap.size, 1, none⟩ = some (.slice A1 (digs (qt x)).length c1) ∧ w'.cell? ⟨w.heap.size, 2, none⟩ = some (.slice D1 (digs (qd x)).length d1) ∧ w'.cell? ⟨w.heap.size + 1, 0, none⟩ = some (.bool (qn y)) ∧ w'.cell? ⟨w.heap.size + 1, 1, none⟩ = some (.slice A2 (digs (qt y)).length c2) ∧ w'.cell? ⟨w.heap.size + 1, 2, none⟩ = some (.slice D2 (digs (qd y)).length d2) ∧ T2 w w.heap.size [.bool (qn x), .slice A1 (digs (qt x)).length c1, .slice D1 (digs (qd x)).length d1] [.bool (qn y), .slice A2 (digs (qt y)).length c2, .slice D2 (digs (qd y)).length d2] w' := fun w' h => ⟨h.1.cell 0, h.1.cell 1, h.1.cell 2, h.2.1.cell 0, h.2.1.cell 1, h.2.1.cell 2, h⟩
  obtain ⟨z, hz⟩ : ∃ z, Hid (cmpQ x y = z) := ⟨_, rfl⟩
  rw [hz.out]
  go_enter Try.func69, Try.ntmps69
  obtain ⟨W0, hW0⟩ : ∃ W0, W0 = (w.alloc (.cells #[.bool (qn x), .slice A1 (digs (qt x)).length c1, .slice D1 (digs (qd x)).length d1] 25)).alloc (.cells #[.bool (qn y), .slice A2 (digs (qt y)).length c2, .slice D2 (digs (qd y)).length d2] 25) := ⟨_, rfl⟩
  go_wp2_with fail
  rw [← hW0] at k0 ⊢
  clear hW0
  have z00 := k0.2.1.2
  go_upto_region 1 with fail
  go_cut [5] (fun s5 wx => ∃ (g : Nat) (A : Option Addr) (c : Nat) (D : Option Addr) (d : Nat), s5 = .pointer (some ⟨g, 0, none⟩) ∧ SB wx g [.bool (qn (x + -y)), .slice A (digs (qt (x + -y))).length c, .slice D (digs (qd (x + -y))).length d] ∧ Below w.heap.size w wx)
  case first =>
    have k0d := k0.dr
    have k0s := And.intro (k0d.1.cell 0) (And.intro (k0d.1.cell 1) (And.intro (k0d.1.cell 2) (And.intro (k0d.2.1.cell 0) (And.intro (k0d.2.1.cell 1) (And.intro (k0d.2.1.cell 2) (k0d))))))
    go_region_held3 (fun w' => w'.cell? ⟨w.heap.size, 0, none⟩ = some (.bool (qn x)) ∧ w'.cell? ⟨w.heap.size, 1, none⟩ = some (.slice A1 (digs (qt x)).length c1) ∧ w'.cell? ⟨w.heap.size, 2, none⟩ = some (.slice D1 (digs (qd x)).length d1) ∧ w'.cell? ⟨w.heap.size + 1, 0, none⟩ = some (.bool (qn y)) ∧ w'.cell? ⟨w.heap.size + 1, 1, none⟩ = some (.slice A2 (digs (qt y)).length c2) ∧ w'.cell? ⟨w.heap.size + 1, 2, none⟩ = some (.slice D2 (digs (qd y)).length d2) ∧ T2 w w.heap.size [.bool (qn x), .slice A1 (digs (qt x)).length c1, .slice D1 (digs (qd x)).length d1] [.bool (qn y), .slice A2 (digs (qt y)).length c2, .slice D2 (digs (qd y)).length d2] w')
      (first
        | with_reducible exact kws.out
        | with_reducible exact k0s
        | (have s1 := (by with_reducible assumption : _ ∧ _ ∧ _ ∧ _ ∧ _ ∧ _ ∧ T2 w w.heap.size [.bool (qn x), .slice A1 (digs (qt x)).length c1, .slice D1 (digs (qd x)).length d1] [.bool (qn y), .slice A2 (digs (qt y)).length c2, .slice D2 (digs (qd y)).length d2] _).2.2.2.2.2.2.nx BX; have q0_ := s1.1.cell 0; have q1_ := s1.1.cell 1; have q2_ := s1.1.cell 2; have q3_ := s1.2.1.cell 0; have q4_ := s1.2.1.cell 1; have q5_ := s1.2.1.cell 2; with_reducible exact ⟨q0_, q1_, q2_, q3_, q4_, q5_, s1⟩)
        | with_reducible exact conjS _ ((by with_reducible assumption : _ ∧ _ ∧ _ ∧ _ ∧ _ ∧ _ ∧ T2 w w.heap.size [.bool (qn x), .slice A1 (digs (qt x)).length c1, .slice D1 (digs (qd x)).length d1] [.bool (qn y), .slice A2 (digs (qt y)).length c2, .slice D2 (digs (qd y)).length d2] _).2.2.2.2.2.2.nx (bal _ _))
        | (with_reducible refine conjS _ (T2.re (by with_reducible assumption : _ ∧ _ ∧ _ ∧ _ ∧ _ ∧ _ ∧ T2 w w.heap.size [.bool (qn x), .slice A1 (digs (qt x)).length c1, .slice D1 (digs (qd x)).length d1] [.bool (qn y), .slice A2 (digs (qt y)).length c2, .slice D2 (digs (qd y)).length d2] _).2.2.2.2.2.2 ?_); assumption))
      (first
        | (go_at_call 38; have hh := (by with_reducible assumption : _ ∧ _ ∧ _ ∧ _ ∧ _ ∧ _ ∧ T2 w w.heap.size [.bool (qn x), .slice A1 (digs (qt x)).length c1, .slice D1 (digs (qd x)).length d1] [.bool (qn y), .slice A2 (digs (qt y)).length c2, .slice D2 (digs (qd y)).length d2] _).2.2.2.2.2.2; refine (rminus_any y A2 D2 c2 d2 _).mono ?_; rintro e w12 ⟨rfl, BX⟩; have B12 := BX; have z12 := (hh.nx BX).2.1.2; (first | (have sg := sg.nx BX; have g0 := sg.cell 0; have g1 := sg.cell 1; have g2 := sg.cell 2; have h0 := sg.frozen 0; have h1 := sg.frozen 1; have h2 := sg.frozen 2) | (have sg := (SB.new _ [.bool false, .slice none 0 0, .slice none 0 0] 25).nx BX; have g0 := sg.cell 0; have g1 := sg.cell 1; have g2 := sg.cell 2; have h0 := sg.frozen 0; have h1 := sg.frozen 1; have h2 := sg.frozen 2) | (have sg := ((SB.new _ [.bool false, .slice none 0 0, .slice none 0 0] 25).nx (Below.drew (Below.refl _ _))).nx BX; have g0 := sg.cell 0; have g1 := sg.cell 1; have g2 := sg.cell 2; have h0 := sg.frozen 0; have h1 := sg.frozen 1; have h2 := sg.frozen 2) | skip))
        | ((first | have gl := sg.2 | skip); go_at_call 37; have hh := (by with_reducible assumption : _ ∧ _ ∧ _ ∧ _ ∧ _ ∧ _ ∧ T2 w w.heap.size [.bool (qn x), .slice A1 (digs (qt x)).length c1, .slice D1 (digs (qd x)).length d1] [.bool (qn y), .slice A2 (digs (qt y)).length c2, .slice D2 (digs (qd y)).length d2] _).2.2.2.2.2.2; refine (rsum_any _ _ x (-y) _ (hx.st hh.2.2) ⟨A2, c2, D2, d2, rfl, by rw [q_neg_t]; exact st r3 hh.2.2, by rw [q_neg_d]; exact st r4 hh.2.2⟩ hb).mono ?_; rintro e w16 ⟨A16, c16, D16, d16, rfl, O16, P16, BX⟩; have B16 := BX; have z16 := (hh.nx BX).2.1.2; have kk := hh.nx BX; (first | (have sg := sg.nx BX; have g0 := sg.cell 0; have g1 := sg.cell 1; have g2 := sg.cell 2; have h0 := sg.frozen 0; have h1 := sg.frozen 1; have h2 := sg.frozen 2) | (have sg := (SB.new _ [.bool false, .slice none 0 0, .slice none 0 0] 25).nx BX; have g0 := sg.cell 0; have g1 := sg.cell 1; have g2 := sg.cell 2; have h0 := sg.frozen 0; have h1 := sg.frozen 1; have h2 := sg.frozen 2) | (have sg := ((SB.new _ [.bool false, .slice none 0 0, .slice none 0 0] 25).nx (Below.drew (Below.refl _ _))).nx BX; have g0 := sg.cell 0; have g1 := sg.cell 1; have g2 := sg.cell 2; have h0 := sg.frozen 0; have h1 := sg.frozen 1; have h2 := sg.frozen 2) | skip); (first | (have gz := gt1 (n := w.heap.size) sg (by first | assumption | (simp; omega)); have kw := Lib.hid (T2.wr kk gz (.bool (qn (x + -y))) (.slice A16 (digs (qt (x + -y))).length c16) (.slice D16 (digs (qd (x + -y))).length d16)); have kws := Lib.hid (conjS _ kw.out)) | skip)))
    all_goals
      go_wp2_with fail
      go_meet
      first
        | exact ⟨_, A16, c16, D16, d16, rfl, SB.new w16 _ _, (kk.nx (bal _ _)).2.2⟩
        | exact ⟨_, A16, c16, D16, d16, rfl, SB.put3 sg _ _ _, kw.out.2.2⟩
  case rest =>
    obtain ⟨g, A, c, D, d, rfl, sg, BZ⟩ := hcut
    have hz := hz.out
    unfold cmpQ at hz
    have g0 := sg.cell 0
    have g1 := sg.cell 1
    have ht : (digs (qt (x + -y))).length = 0 ↔ qt (x + -y) = 0 := digs_len0
    have hzn : qt (x + -y) = 0 → qn (x + -y) = false := qn_zero
    generalize qt (x + -y) = t at *
    generalize (digs t).length = n at *
    clear k0 sg hx hb hb' conjS r1 r2 r3 r4
    generalize qn (x + -y) = s at *
    by_cases h0 : n = 0
    · have ht0 := ht.1 h0
      rw [hzn ht0, if_neg (by simp), if_neg (by omega)] at hz
      subst hz
      subst h0
      clear hzn ht ht0
      go_wp2_with fail
      go_ret
      exact ⟨rfl, BZ⟩
    · have ht0 : 0 < t := by omega
      have h1 : ((n : Int) == 0) = false := beq_eq_false_iff_ne.2 (by omega)
      clear ht hzn
      cases s with
      | true =>
        rw [if_pos rfl] at hz
        subst hz
        clear ht0
        go_wp2_with fail
        go_ret
        exact ⟨rfl, BZ⟩
      | false =>
        rw [if_neg (by simp), if_pos ht0] at hz
        subst hz
        clear ht0
        go_wp2_with fail
        go_ret
        exact ⟨rfl, BZ⟩


set_option maxHeartbeats 4000000 in
theorem rreal_any (V : Value) (r i : Rw) (w : World) (hV : VN w w.heap.size V r i) :
    Calls Try.prog 78 #[V] w fun e w' => e = .returned (.bool (decide (i.a.length = 0))) ∧ Below w.heap.size w w' := by
  obtain ⟨s1, a1, b1⟩ := r
  obtain ⟨s2, a2, b2⟩ := i
  obtain ⟨A1, c1, D1, d1, A2, c2, D2, d2, rfl, p1, p2, p3, p4⟩ := hV
  dsimp only at p1 p2 p3 p4 ⊢
  have sg := SB.new w [.bool s1, .slice A1 a1.length c1, .slice D1 b1.length d1, .bool s2, .slice A2 a2.length c2, .slice D2 b2.length d2] 27
  have B1 := bal w (.cells #[.bool s1, .slice A1 a1.length c1, .slice D1 b1.length d1, .bool s2, .slice A2 a2.length c2, .slice D2 b2.length d2] 27)
  have m1 := sg.cell 4
  generalize hm : a2.length = m at *
  clear hm p1 p2 p3 p4 sg
  go_enter Try.func78, Try.ntmps78
  by_cases h2 : m = 0
  · subst h2
    go_wp2_with fail
    go_ret
    exact ⟨by simp, B1⟩
  · have h3 : ((m : Int) == 0) = false := by simpa using h2
    go_wp2_with fail
    go_ret
    exact ⟨by simp [h2], B1⟩
def largeB (r i : Rw) : Bool := decide (512 < r.a.length) || (decide (512 < r.b.length) || (decide (512 < i.a.length) || decide (512 < i.b.length)))
end Go.Proofs.Ytabcnpcfknlmlaa
namespace Go.Proofs.Ytabcnpcfknlmlaa
open Go.RowKit

theorem RQ.parts {w : World} {B : Nat} {s : Bool} {A : Option Addr} {n c : Nat} {D : Option Addr} {m d : Nat} {q : Rat} (h : RQ w B (.agg #[.bool s, .slice A n c, .slice D m d]) q) : RW w B A c (digs (qt q)) ∧ RW w B D d (digs (qd q)) := by
  obtain ⟨A', c', D', d', e, h1, h2⟩ := h
  simp only [Value.agg.injEq, Array.mk.injEq, List.cons.injEq, Value.slice.injEq, and_true] at e
  obtain ⟨_, ⟨rfl, _, rfl⟩, rfl, _, rfl⟩ := e
  exact ⟨h1, h2⟩
theorem RQ.neg {w : World} {B : Nat} {s : Bool} {A : Option Addr} {n c : Nat} {D : Option Addr} {m d : Nat} {q : Rat} (h : RQ w B (.agg #[.bool s, .slice A n c, .slice D m d]) q) :
    RQ w B (.agg #[.bool (qn (-q)), .slice A (digs (qt (-q))).length c, .slice D (digs (qd (-q))).length d]) (-q) := by
  obtain ⟨h1, h2⟩ := h.parts
  exact ⟨A, c, D, d, rfl, by rw [q_neg_t]; exact h1, by rw [q_neg_d]; exact h2⟩
theorem S3.wr3 {w w1 : World} {b n g : Nat} {l1 l2 : List Value} (h : S3 w b l1 l2 n w1) (hg : b + 2 < g) (x y z : Value) : S3 w b l1 l2 n (Go.Proofs.Ytabcnpcfknlmlaa.wr3 w1 g x y z) :=
  ⟨h.1.wr3 (by omega) x y z, h.2.1.wr3 (by omega) x y z, (h.2.2.1.sb.wr3 (by omega) x y z).rc (by simp), wr3_below h.2.2.2 (by omega) x y z⟩
/-- what the second region keeps: besides, the first fraction -/
def P3 (w wc : World) (b : Nat) (l1 l2 : List Value) (n g : Nat) (l3 : List Value) (w' : World) : Prop := S3 w b l1 l2 n w' ∧ SB w' g l3 ∧ Below wc.heap.size wc w'
section
variable {w wc w1 w2 : World} {b n g g2 : Nat} {l1 l2 l3 : List Value}
theorem P3.nx (h : P3 w wc b l1 l2 n g l3 w1) (hb : Below w1.heap.size w1 w2) : P3 w wc b l1 l2 n g l3 w2 := ⟨h.1.nx hb, h.2.1.nx hb, bt h.2.2 hb⟩
theorem P3.dr (h : P3 w wc b l1 l2 n g l3 w1) : P3 w wc b l1 l2 n g l3 w1.drew := h.nx (Below.drew (Below.refl _ _))
theorem P3.wr3 (h : P3 w wc b l1 l2 n g l3 w1) (hg : b + 2 < g2 ∧ g < g2 ∧ wc.heap.size ≤ g2) (x y z : Value) : P3 w wc b l1 l2 n g l3 (Go.Proofs.Ytabcnpcfknlmlaa.wr3 w1 g2 x y z) :=
  ⟨h.1.wr3 hg.1 x y z, h.2.1.wr3 (by omega) x y z, wr3_below h.2.2 hg.2.2 x y z⟩
theorem sbre {o o' : Obj} {k : Nat} {vs : List Value} (hk : k < w1.heap.size) (h : SB (w1.alloc o) k vs) : SB (w1.alloc o') k vs :=
  ⟨fun i v hv => ⟨((((bal w1 o').cell (p := ⟨k, i, none⟩) hk).trans ((bal w1 o).cell (p := ⟨k, i, none⟩) hk).symm)).trans (h.1 i v hv).1, ((((bal w1 o').frozen (p := ⟨k, i, none⟩) hk).trans ((bal w1 o).frozen (p := ⟨k, i, none⟩) hk).symm)).trans (h.1 i v hv).2⟩, by simp; omega⟩
theorem P3.re {o o' : Obj} (h : P3 w wc b l1 l2 n g l3 (w1.alloc o)) (hg : b + 2 < w1.heap.size ∧ g < w1.heap.size ∧ wc.heap.size ≤ w1.heap.size) : P3 w wc b l1 l2 n g l3 (w1.alloc o') := by
  refine ⟨h.1.re hg.1, sbre hg.2.1 h.2.1, ?_⟩
  have h3 := h.2.2
  have e : ∀ (q : Obj) (k : Nat), k < w1.heap.size → (w1.alloc q).heap[k]? = w1.heap[k]? := fun q k hk => (bal w1 q).block k hk
  exact ⟨h3.os, h3.tape, h3.output, by have := h3.size; simpa using this, fun k hk => by
    rw [e o' k (by omega), ← e o k (by omega)]; exact h3.block k hk⟩
theorem gtp {l : List Value} (_ : SB w g2 l) (h : b + 2 < g2 ∧ g < g2 ∧ n ≤ g2) : b + 2 < g2 ∧ g < g2 ∧ n ≤ g2 := h
end


end Go.Proofs.Ytabcnpcfknlmlaa
namespace Go.Proofs.Ytabcnpcfknlmlaa
open Go.RowKit


end Go.Proofs.Ytabcnpcfknlmlaa
namespace Go.Proofs.Ytabcnpcfknlmlaa
open Go.RowKit

theorem largeB_q {x y : Rat} : largeB (rwq x) (rwq y) = !decide (qw x ≤ 512 ∧ qw y ≤ 512) := by
  unfold largeB rwq qw
  dsimp only
  rw [Bool.eq_iff_iff]
  simp only [Bool.or_eq_true, decide_eq_true_eq, Bool.not_eq_true', decide_eq_false_iff_not, Nat.max_le]
  omega
/-- fit of what is of one's own -/
def RetF (w : World) (base : Nat) (x : Rw × Rw × Int) (e : Ending) (w' : World) : Prop := ∃ A1 c1 D1 d1 A2 c2 D2 d2, e = .returned (.tuple #[.agg #[.bool x.1.s, .slice A1 x.1.a.length c1, .slice D1 x.1.b.length d1, .bool x.2.1.s, .slice A2 x.2.1.a.length c2, .slice D2 x.2.1.b.length d2], .int .i64 x.2.2]) ∧
  OW w' base A1 c1 x.1.a ∧ OW w' base D1 d1 x.1.b ∧ OW w' base A2 c2 x.2.1.a ∧ OW w' base D2 d2 x.2.1.b ∧ Below w.heap.size w w'
end Go.Proofs.Ytabcnpcfknlmlaa
namespace Go.Proofs.Ytabcnpcfknlmlaa
open Go.RowKit


end Go.Proofs.Ytabcnpcfknlmlaa
namespace Go.Proofs.Ytabcnpcfknlmlaa
open Go.RowKit


set_option maxRecDepth 100000 in
set_option maxHeartbeats 4000000 in
theorem rwhole1_any (V : Value) (r i : Rw) (w : World) (hV : VN w w.heap.size V r i) :
    Calls Try.prog 68 #[V] w fun e w' => e = .returned (.bool (wB r i)) ∧ Below w.heap.size w w' := by
  obtain ⟨A1, c1, D1, d1, A2, c2, D2, d2, rfl, p1, p2, p3, p4⟩ := hV
  have Ha : VN w w.heap.size (.agg #[.bool r.s, .slice A1 r.a.length c1, .slice D1 r.b.length d1, .bool i.s, .slice A2 i.a.length c2, .slice D2 i.b.length d2]) r i := ⟨A1, c1, D1, d1, A2, c2, D2, d2, rfl, p1, p2, p3, p4⟩
  have S0 := SB.new w [.bool r.s, .slice A1 r.a.length c1, .slice D1 r.b.length d1, .bool i.s, .slice A2 i.a.length c2, .slice D2 i.b.length d2] 27
  have C0 := bal w (.cells #[.bool r.s, .slice A1 r.a.length c1, .slice D1 r.b.length d1, .bool i.s, .slice A2 i.a.length c2, .slice D2 i.b.length d2] 27)
  have hs1 := fun V w' h => resound_any V r i w' h
  have hr1 := fun V w' h => rreal_any V r i w' h
  unfold wB
  obtain ⟨t3, hd⟩ : ∃ t3, decide (r.b = [1]) = t3 := ⟨_, rfl⟩
  rw [hd]
  have hd := Lib.hid hd
  generalize nB r i = t1 at *
  generalize decide (i.a.length = 0) = t2 at *
  cases t1 with
  | false =>
    have i0 := S0.cell 0
    have i1 := S0.cell 1
    have i2 := S0.cell 2
    have i3 := S0.cell 3
    have i4 := S0.cell 4
    have i5 := S0.cell 5
    go_enter Try.func68, Try.ntmps68
    go_wp2_with fail
    refine (hs1 _ _ (Ha.st C0)).mono ?_; rintro e w3 ⟨rfl, B3⟩
    have S3 := S0.nx B3
    have C3 := bt C0 B3
    clear i0 i1 i2 i3 i4 i5
    go_wp2_with fail
    go_ret
    exact ⟨by simp, C3⟩
  | true =>
    cases t2 with
    | false =>
      have i0 := S0.cell 0
      have i1 := S0.cell 1
      have i2 := S0.cell 2
      have i3 := S0.cell 3
      have i4 := S0.cell 4
      have i5 := S0.cell 5
      go_enter Try.func68, Try.ntmps68
      go_wp2_with fail
      refine (hs1 _ _ (Ha.st C0)).mono ?_; rintro e w3 ⟨rfl, B3⟩
      have S3 := S0.nx B3
      have C3 := bt C0 B3
      clear i0 i1 i2 i3 i4 i5
      have j0 := S3.cell 0
      have j1 := S3.cell 1
      have j2 := S3.cell 2
      have j3 := S3.cell 3
      have j4 := S3.cell 4
      have j5 := S3.cell 5
      go_wp2_with fail
      refine (hr1 _ _ (Ha.st C3)).mono ?_; rintro e w4 ⟨rfl, B4⟩
      have S4 := S3.nx B4
      have C4 := bt C3 B4
      clear j0 j1 j2 j3 j4 j5
      go_wp2_with fail
      go_ret
      exact ⟨by simp, C4⟩
    | true =>
      have i0 := S0.cell 0
      have i1 := S0.cell 1
      have i2 := S0.cell 2
      have i3 := S0.cell 3
      have i4 := S0.cell 4
      have i5 := S0.cell 5
      go_enter Try.func68, Try.ntmps68
      go_wp2_with fail
      refine (hs1 _ _ (Ha.st C0)).mono ?_; rintro e w3 ⟨rfl, B3⟩
      have S3 := S0.nx B3
      have C3 := bt C0 B3
      clear i0 i1 i2 i3 i4 i5
      have j0 := S3.cell 0
      have j1 := S3.cell 1
      have j2 := S3.cell 2
      have j3 := S3.cell 3
      have j4 := S3.cell 4
      have j5 := S3.cell 5
      go_wp2_with fail
      refine (hr1 _ _ (Ha.st C3)).mono ?_; rintro e w4 ⟨rfl, B4⟩
      have S4 := S3.nx B4
      have C4 := bt C3 B4
      clear j0 j1 j2 j3 j4 j5
      have i2 := S4.cell 2
      have L4 := bal w4 (.cells #[.int .u32 (1 : Nat)] 53)
      have r1 := RW.one w4 53 (show 1 < 4294967296 by omega)
      have hsm := same_any D1 (some ⟨w4.heap.size, 0, none⟩) d1 1 r.b.length 1 r.b [1] _ rfl rfl (st p2 (bt C4 L4)) (r1.more (by simp))
      rw [hd.out] at hsm
      go_wp2_with fail
      refine hsm.mono ?_; rintro e w5 ⟨rfl, q, rfl⟩
      go_wp2_with fail
      go_ret
      exact ⟨by simp, bdN (bt C4 L4) q⟩

end Go.Proofs.Ytabcnpcfknlmlaa
namespace Go.Proofs.Ytabcnpcfknlmlaa
open Go.RowKit

section
variable {P : Program} {ops : Array Oper} {Q : Exit → Act → World → Prop} {md : Region.Mode} {S : World → Prop} {n : Nat}
/-- in whatever order; S holds behind every operation but number n -/
def AnyU (P : Program) (md : Region.Mode) (ops : Array Oper) (Q : Exit → Act → World → Prop) (S : World → Prop) (n : Nat) : Nat → Array Bool → Act → World → Prop
  | 0 => fun l a w => Region.ready md ops l = [] ∧ Q .normal a w
  | f + 1 => fun l a w => (Region.ready md ops l = [] → Q .normal a w) ∧
      ∀ i ∈ Region.ready md ops l, wpOp P ops Q i (fun a' w' => (i = n ∨ S w') ∧ AnyU P md ops Q S n f (l.setIfInBounds i true) a' w') a w
theorem AnyU.any (f : Nat) : ∀ (l : Array Bool) (a : Act) (w : World), AnyU P md ops Q S n f l a w → wpAny P md ops Q f l a w := by
  induction f with
  | zero => exact fun l a w h => h
  | succ f ih => exact fun l a w h => ⟨h.1, fun i hi => wpOp_mono (fun a' w' g => ih _ a' w' g.2) (h.2 i hi)⟩
/-- who comes up ahead of i leaves i alone -/
def Alone (md : Region.Mode) (ops : Array Oper) (l : Array Bool) (i : Nat) (oi : Oper) : Prop :=
  ∀ j oj, ops[j]? = some oj → j ≠ i → l.getD j true = false → (∀ e ∈ oj.after, Region.binds md e = true → e.on ≠ i) → oi.apart ops oj = true
theorem Alone.set {l : Array Bool} {i j : Nat} {oi : Oper} (h : Alone md ops l i oi) (hj : l.getD j true = false) : Alone md ops (l.setIfInBounds j true) i oi := by
  intro k ok hk hki hu hno
  refine h k ok hk hki ?_ hno
  by_cases e : j = k
  · rw [← e]; exact hj
  · rwa [getD_set_ne true e] at hu
theorem unlisted {l : Array Bool} {i : Nat} (h : l.getD i true = false) : l.getD i false = false := by
  cases hx : l[i]? with
  | none => simp [Array.getD_eq_getD_getElem?, hx]
  | some b => simp [Array.getD_eq_getD_getElem?, hx] at h ⊢; exact h
theorem AnyU.take_aux {i : Nat} {oi : Oper} {v : Value} (hi : ops[i]? = some oi) (hsel : ∀ (j : Nat) (o : Oper) cs b, ops[j]? = some o → o.op ≠ .select cs b)
    (hQ : ∀ c a w, Q (.panic c) (a.put oi.dst v) w → Q (.panic c) a w) (hn : Region.waitsFor md ops n i = true) (f : Nat) :
    ∀ (l : Array Bool) (a : Act) (w : World), Alone md ops l i oi → i ∈ Region.ready md ops l → YieldsIf P ops S oi v a → S w →
      AnyU P md ops Q S n f (l.setIfInBounds i true) (a.put oi.dst v) w → AnyU P md ops Q S n (f + 1) l a w := by
  have last : ∀ l : Array Bool, i ∈ Region.ready md ops l → n ∉ Region.ready md ops l := by
    intro l h1 h2
    obtain ⟨on, hon, e, he, hb, heq⟩ := Region.waitsFor_spec hn
    obtain ⟨_, o2, ho2, hall⟩ := mem_ready.1 h2
    obtain rfl : o2 = on := Option.some.inj (ho2.symm.trans hon)
    have h3 := hall e he hb
    rw [heq, unlisted (mem_ready.1 h1).1] at h3
    cases h3
  induction f with
  | zero =>
    intro l a w _ hr hy hS H
    refine ⟨fun h => (by rw [h] at hr; cases hr), fun j hj => ?_⟩
    by_cases e : j = i
    · subst e
      exact hy.wpOp hi hS ⟨.inr hS, H⟩
    · have hj2 := ready_mono hj e
      rw [H.1] at hj2
      cases hj2
  | succ f ih =>
    intro l a w hA hr hy hS H
    refine ⟨fun h => (by rw [h] at hr; cases hr), fun j hj => ?_⟩
    by_cases e : j = i
    · subst e
      exact hy.wpOp hi hS ⟨.inr hS, H⟩
    obtain ⟨hju, oj, hoj, hall⟩ := mem_ready.1 hj
    have hno : ∀ e ∈ oj.after, Region.binds md e = true → e.on ≠ i := by
      intro e he hb heq
      have h3 := hall e he hb
      rw [heq, unlisted (mem_ready.1 hr).1] at h3
      cases h3
    have hjn : j ≠ n := fun h => last l hr (h ▸ hj)
    have step := wpOp_putIf hoj (hA j oj hoj e hju hno) (fun cs b => hsel i oi cs b hi) (fun cs b => hsel j oj cs b hoj) hQ hy (H.2 j (ready_mono hj e))
    refine wpOp_mono (fun a' w' g => ?_) step
    have hS' : S w' := g.2.1.resolve_left hjn
    refine ⟨.inr hS', ih _ a' w' (hA.set hju) (ready_mono hr (Ne.symm e)) g.1 hS' ?_⟩
    rw [Array.setIfInBounds_comm _ _ e]
    exact g.2.2
theorem AnyU.take {i : Nat} {oi : Oper} {v : Value} {f : Nat} {l : Array Bool} {a : Act} {w : World} (hi : ops[i]? = some oi) (hs : Region.noSelect ops = true) (hf : Region.free md ops l i = true) (hr : (Region.ready md ops l).contains i = true)
    (hn : Region.waitsFor md ops n i = true) (hQ : ∀ c a w, Q (.panic c) (a.put oi.dst v) w → Q (.panic c) a w) (hy : YieldsIf P ops S oi v a) (hS : S w)
    (h : AnyU P md ops Q S n f (l.setIfInBounds i true) (a.put oi.dst v) w) : AnyU P md ops Q S n (f + 1) l a w :=
  AnyU.take_aux hi (Region.noSelect_spec hs) hQ hn f l a w (fun j oj h1 h2 h3 h4 => Region.free_spec hi hf j oj h1 h2 h3 h4) (by simpa using hr) hy hS h
/-- one operation alone may come up -/
theorem AnyU.one (i : Nat) {o : Oper} {f : Nat} {l : Array Bool} {a : Act} {w : World} (hr : Region.ready md ops l = [i]) (ho : ops[i]? = some o)
    (h : ∀ K : Act → World → Prop, Shut (∀ a w, (i = n ∨ S w) → ((i = n ∨ S w) → AnyU P md ops Q S n f (l.setIfInBounds i true) a w) → K a w) → if Region.wanted o (yielded ops a.tmps) = true then Oper.wp P o a w K Q else K (a.put o.dst undef) w) :
    AnyU P md ops Q S n (f + 1) l a w := by
  refine ⟨fun h0 => (by rw [h0] at hr; cases hr), fun j hj => ?_⟩
  rw [hr] at hj
  obtain rfl := List.mem_singleton.1 hj
  exact wpOp_step ho (fun K hK => h K (fun a w hS hW => hK a w ⟨hS, hW hS⟩))
theorem AnyU.region {id : Nat} {a : Act} {w : World} (n : Nat) (S : World → Prop) (hm : P.follows .mixedOrders = true) (hS : S w.drew) (h : S w.drew → AnyU P .any ops Q S n ops.size (Array.replicate ops.size false) a w.drew) : (Code.region id ops true).wp P Q a w :=
  wp_region_any hm (AnyU.any _ _ _ _ (h hS))
/-- what is said of a panic does not hang on the slots -/
def QuietP (Q : Exit → Act → World → Prop) : Prop := ∀ c a a' w, a'.defers = a.defers → Q (.panic c) a' w → Q (.panic c) a w
theorem quiet_then {K : Act → World → Prop} (h : QuietP Q) : QuietP (Exit.then K Q) := fun c a a' w e g => h c a a' w e g
theorem quiet_block {id : Nat} (h : QuietP Q) : QuietP (Exit.inBlock id Q) := fun c a a' w e g => h c a a' w e g
theorem quiet_body {fn : Func} {R : Ending → World → Prop} : QuietP (bodyPost P fn R) := fun _ _ _ _ e g => ⟨e ▸ g.1, g.2⟩
theorem put_defers (a : Act) (d : Option Tmp) (v : Value) : (a.put d v).defers = a.defers := by cases d <;> rfl
theorem AnyU.next {i : Nat} {oi : Oper} {d : Tmp} {v : Value} {f : Nat} {l : Array Bool} {ts : Array Value} {ds : List Deferred} {w : World} (hq : QuietP Q) (hs : Region.noSelect ops = true) (hS : S w) (hi : ops[i]? = some oi) (hd : oi.dst = some d)
    (hk : (Region.free md ops l i && ((Region.ready md ops l).contains i && Region.waitsFor md ops n i)) = true) (hy : YieldsIf P ops S oi v ⟨ts, ds⟩)
    (h : AnyU P md ops Q S n f (l.setIfInBounds i true) ⟨ts.setIfInBounds d v, ds⟩ w) : AnyU P md ops Q S n (f + 1) l ⟨ts, ds⟩ w := by
  simp only [Bool.and_eq_true] at hk
  refine AnyU.take hi hs hk.1 hk.2.1 hk.2.2 (fun c a w h => hq c a _ w (put_defers _ _ _) h) hy hS ?_
  rw [hd]
  exact h
theorem AnyU.regionQ {id : Nat} {a : Act} {w : World} (n N : Nat) (S : World → Prop) (hN : ops.size = N) (hm : P.follows .mixedOrders = true) (hs : Region.noSelect ops = true) (hq : QuietP Q) (hS : S w.drew)
    (h : ∀ Q' : Exit → Act → World → Prop, Shut (∀ a w, Q .normal a w → Q' .normal a w) → QuietP Q' → Region.noSelect ops = true → S w.drew → AnyU P .any ops Q' S n N (Array.replicate N false) a w.drew) : (Code.region id ops true).wp P Q a w :=
  have h0 : ∀ a w, Q .normal a w → Q .normal a w := fun _ _ h => h
  by subst hN; exact wp_region_any hm (AnyU.any _ _ _ _ (h Q h0 hq hs hS))
theorem AnyU.done {f : Nat} {l : Array Bool} {a : Act} {w : World} (hr : Region.ready md ops l = []) (h : Q .normal a w) : AnyU P md ops Q S n f l a w := by
  cases f with
  | zero => exact ⟨hr, h⟩
  | succ f => exact ⟨fun _ => h, fun i hi => by rw [hr] at hi; cases hi⟩
end
theorem S2.far3 {w w1 : World} {b g n : Nat} {l1 : List Value} (h : S2 w b l1 n w1) (hg : b + 1 < g) (x y z : Value) : S2 w b l1 n (wr3 w1 g x y z) :=
  ⟨h.1.wr3 (by omega) x y z, (h.2.1.sb.wr3 (by omega) x y z).rc (by simp), wr3_below h.2.2 (by omega) x y z⟩
theorem OW.far3 {w : World} {base g : Nat} {A : Option Addr} {c : Nat} {l : List Nat} (h : OW w base A c l) (hn : ∀ b, A = some ⟨b, 0, none⟩ → b ≠ g) (x y z : Value) : OW (wr3 w g x y z) base A c l :=
  ((h.far (p := ⟨g, 0, none⟩) hn x).far (p := ⟨g, 1, none⟩) hn y).far (p := ⟨g, 2, none⟩) hn z
theorem SB.put36 {w : World} {g : Nat} {a b c d e f : Value} (h : SB w g [a, b, c, d, e, f]) (x y z : Value) : SB (Go.Proofs.Ytabcnpcfknlmlaa.wr3 w g x y z) g [x, y, z, d, e, f] := ((h.set 0 x).set 1 y).set 2 z
end Go.Proofs.Ytabcnpcfknlmlaa
namespace Go.Proofs.Ytabcnpcfknlmlaa
open Go.RowKit

/-- number i comes up next -/
def USome (P : Program) (md : Region.Mode) (ops : Array Oper) (Q : Exit → Act → World → Prop) (S : World → Prop) (n f : Nat) (l : Array Bool) (a : Act) (w : World) (i : Nat) : Prop :=
  wpOp P ops Q i (fun a' w' => (i = n ∨ S w') ∧ AnyU P md ops Q S n f (l.setIfInBounds i true) a' w') a w
section
variable {P : Program} {md : Region.Mode} {ops : Array Oper} {Q : Exit → Act → World → Prop} {S : World → Prop} {n f : Nat} {l : Array Bool} {a : Act} {w : World} {i j m : Nat}
theorem USome.mk {o : Oper} (ho : ops[i]? = some o)
    (h : ∀ K : Act → World → Prop, Shut (∀ a w, (i = n ∨ S w) → ((i = n ∨ S w) → AnyU P md ops Q S n f (l.setIfInBounds i true) a w) → K a w) → if Region.wanted o (yielded ops a.tmps) = true then Oper.wp P o a w K Q else K (a.put o.dst undef) w) : USome P md ops Q S n f l a w i :=
  wpOp_step ho (fun K hK => h K (fun a w hS hW => hK a w ⟨hS, hW hS⟩))
theorem AnyU.two (hr : Region.ready md ops l = [i, j]) (h1 : USome P md ops Q S n f l a w i) (h2 : USome P md ops Q S n f l a w j) : AnyU P md ops Q S n (f + 1) l a w :=
  ⟨fun h0 => (by rw [h0] at hr; cases hr), fun k hk => by
    rw [hr] at hk
    simp only [List.mem_cons, List.not_mem_nil, or_false] at hk
    rcases hk with rfl | rfl
    · exact h1
    · exact h2⟩
theorem AnyU.three (hr : Region.ready md ops l = [i, j, m]) (h1 : USome P md ops Q S n f l a w i) (h2 : USome P md ops Q S n f l a w j) (h3 : USome P md ops Q S n f l a w m) : AnyU P md ops Q S n (f + 1) l a w :=
  ⟨fun h0 => (by rw [h0] at hr; cases hr), fun k hk => by
    rw [hr] at hk
    simp only [List.mem_cons, List.not_mem_nil, or_false] at hk
    rcases hk with rfl | rfl | rfl
    · exact h1
    · exact h2
    · exact h3⟩
end

theorem rq_zero {w : World} {B : Nat} {D : Option Addr} {d : Nat} (h : RW w B D d [1]) : RQ w B (.agg #[.bool false, .slice none 0 0, .slice D 1 d]) 0 :=
  ⟨none, 0, D, d, by rw [show digs (qt (0 : Rat)) = [] from digs_zero, show digs (qd (0 : Rat)) = [1] from digs_one1]; rfl, by rw [show digs (qt (0 : Rat)) = [] from digs_zero]; exact RW.nil _ _ _ _, by rw [show digs (qd (0 : Rat)) = [1] from digs_one1]; exact h⟩
/-- the bytes after k of them are put -/
def outT (s : Nat) (big : Bool) (u k : Nat) : List UInt8 := if big = true then (tgt u s k).reverse else tgt u s k
theorem outT_len (s : Nat) (big : Bool) (u k : Nat) : (outT s big u k).length = s := by unfold outT; split <;> simp [tgt_len]
theorem outT_zero (s : Nat) (big : Bool) (u : Nat) : outT s big u 0 = List.replicate s 0 := by unfold outT; split <;> simp [tgt_zero]
theorem outT_all (s : Nat) (big : Bool) (u : Nat) : outT s big u s = outB s big u := rfl
theorem outT_little {s u k : Nat} (h : k < s) : (outT s false u k).set k (byteN u k) = outT s false u (k + 1) := tgt_set h
theorem outT_big {s u k j : Nat} (h : k < s) (hj : j = s - 1 - k) : (outT s true u k).set j (byteN u k) = outT s true u (k + 1) := by
  show (tgt u s k).reverse.set j (byteN u k) = (tgt u s (k + 1)).reverse
  rw [← tgt_set h]
  refine List.ext_getElem? fun i => ?_
  rw [List.getElem?_set]
  by_cases hi : i < s
  · rw [List.getElem?_reverse (l := tgt u s k) (by rw [tgt_len]; exact hi), List.getElem?_reverse (l := (tgt u s k).set k (byteN u k)) (by rw [List.length_set, tgt_len]; exact hi), List.length_set, tgt_len, List.getElem?_set]
    by_cases e : j = i
    · rw [if_pos e, if_pos (by rw [List.length_reverse, tgt_len]; omega), if_pos (show k = s - 1 - i by omega), if_pos (by rw [tgt_len]; exact h)]
    · rw [if_neg e, if_neg (show ¬ k = s - 1 - i by omega)]
  · have hl : (tgt u s k).length = s := tgt_len ..
    rw [if_neg (by omega), List.getElem?_eq_none (by simp [hl]; omega), List.getElem?_eq_none (by simp [hl]; omega)]
theorem byteN_digit (u k : Nat) : (byteN u k).toNat = u / 256 ^ k % 256 := byteN_nat u k
/-- what is left after k bytes -/
def dv (u k : Nat) : Nat := u / 256 ^ k
theorem dv_zero (u : Nat) : dv u 0 = u := by simp [dv]
theorem dv_succ (u k : Nat) : dv u k / 256 = dv u (k + 1) := by unfold dv; rw [Nat.div_div_eq_div_mul, Nat.pow_succ]
theorem dv_le (u k : Nat) : dv u k ≤ u := Nat.div_le_self ..
theorem dv_byte (u k : Nat) : (byteN u k).toNat = dv u k % 256 := byteN_nat u k
theorem Nrm_256 : Nrm [256] := by rw [← digs_one (n := 256) (by omega) (by omega)]; exact Nrm_digs _


set_option maxRecDepth 100000 in
set_option maxHeartbeats 4000000 in
theorem rone_bad (s : Nat) (big signed : Bool) (V : Value) (r i : Rw) (w : World) (hV : VN w w.heap.size V r i) (hb : ¬ nB r i = true) :
    Calls Try.prog 41 #[.int .i64 (s : Int), .bool big, .bool signed, V] w (RetBE w ([], 2)) := by
  have hs := fun V w' h => resound_any V r i w' h
  rw [Bool.eq_false_iff.2 hb] at hs
  obtain ⟨A1, c1, D1, d1, A2, c2, D2, d2, rfl, p1, p2, p3, p4⟩ := hV
  have Ha : VN w w.heap.size (.agg #[.bool r.s, .slice A1 r.a.length c1, .slice D1 r.b.length d1, .bool i.s, .slice A2 i.a.length c2, .slice D2 i.b.length d2]) r i := ⟨A1, c1, D1, d1, A2, c2, D2, d2, rfl, p1, p2, p3, p4⟩
  have B1 := bal w (.cells #[.bool r.s, .slice A1 r.a.length c1, .slice D1 r.b.length d1, .bool i.s, .slice A2 i.a.length c2, .slice D2 i.b.length d2] 27)
  have S1 := SB.new w [.bool r.s, .slice A1 r.a.length c1, .slice D1 r.b.length d1, .bool i.s, .slice A2 i.a.length c2, .slice D2 i.b.length d2] 27
  have i0 := S1.cell 0
  have i1 := S1.cell 1
  have i2 := S1.cell 2
  have i3 := S1.cell 3
  have i4 := S1.cell 4
  have i5 := S1.cell 5
  clear hb p1 p2 p3 p4
  go_enter Try.func41, Try.ntmps41
  go_wp2_with fail
  refine (hs _ _ (Ha.st B1)).mono ?_; rintro e w3 ⟨rfl, B3⟩
  clear i0 i1 i2 i3 i4 i5 hs
  have S3 := S1.nx B3
  have C3 := bt B1 B3
  have i0 := S3.cell 0
  have i1 := S3.cell 1
  have i2 := S3.cell 2
  have i3 := S3.cell 3
  have i4 := S3.cell 4
  have i5 := S3.cell 5
  clear i0 i1 i2 i3 i4 i5
  go_wp2_with fail
  go_ret2
  exact retBE_nil 2 C3


set_option maxRecDepth 100000 in
set_option maxHeartbeats 4000000 in
theorem rone_type (s : Nat) (big signed : Bool) (V : Value) (r i : Rw) (w : World) (hV : VN w w.heap.size V r i) (hb : nB r i = true) (hw : ¬ wB r i = true) :
    Calls Try.prog 41 #[.int .i64 (s : Int), .bool big, .bool signed, V] w (RetBE w ([], 10)) := by
  have hs := fun V w' h => resound_any V r i w' h
  rw [hb] at hs
  have hw' := Bool.eq_false_iff.2 hw
  clear hw
  have hw := fun V w' h => rwhole1_any V r i w' h
  rw [hw'] at hw
  obtain ⟨A1, c1, D1, d1, A2, c2, D2, d2, rfl, p1, p2, p3, p4⟩ := hV
  have Ha : VN w w.heap.size (.agg #[.bool r.s, .slice A1 r.a.length c1, .slice D1 r.b.length d1, .bool i.s, .slice A2 i.a.length c2, .slice D2 i.b.length d2]) r i := ⟨A1, c1, D1, d1, A2, c2, D2, d2, rfl, p1, p2, p3, p4⟩
  have B1 := bal w (.cells #[.bool r.s, .slice A1 r.a.length c1, .slice D1 r.b.length d1, .bool i.s, .slice A2 i.a.length c2, .slice D2 i.b.length d2] 27)
  have S1 := SB.new w [.bool r.s, .slice A1 r.a.length c1, .slice D1 r.b.length d1, .bool i.s, .slice A2 i.a.length c2, .slice D2 i.b.length d2] 27
  have i0 := S1.cell 0
  have i1 := S1.cell 1
  have i2 := S1.cell 2
  have i3 := S1.cell 3
  have i4 := S1.cell 4
  have i5 := S1.cell 5
  clear hb hw' p1 p2 p3 p4
  go_enter Try.func41, Try.ntmps41
  go_wp2_with fail
  refine (hs _ _ (Ha.st B1)).mono ?_; rintro e w3 ⟨rfl, B3⟩
  clear i0 i1 i2 i3 i4 i5 hs
  have S3 := S1.nx B3
  have C3 := bt B1 B3
  have i0 := S3.cell 0
  have i1 := S3.cell 1
  have i2 := S3.cell 2
  have i3 := S3.cell 3
  have i4 := S3.cell 4
  have i5 := S3.cell 5
  go_wp2_with fail
  refine (hw _ _ (Ha.st C3)).mono ?_; rintro e w4 ⟨rfl, B4⟩
  clear i0 i1 i2 i3 i4 i5 hw
  have S4 := S3.nx B4
  have C4 := bt C3 B4
  go_wp2_with fail
  go_ret2
  exact retBE_nil 10 C4


set_option maxRecDepth 100000 in
set_option maxHeartbeats 16000000 in
theorem rone_main (s : Nat) (big signed : Bool) (V : Value) (x : Rat) (w : World) (h1 : 1 ≤ s) (h64 : s ≤ 64) (hV : RN w w.heap.size V x 0) (bx : qw x ≤ 512) (hn : nB (rwq x) (rwq 0) = true) (hwb : wB (rwq x) (rwq 0) = true) (PW HW : Nat) (hPW : Hid (2 ^ (8 * s) = PW)) (hHW : Hid (2 ^ (8 * s - 1) = HW))
    (L_ U_ : Rat) (hL : L_ = if signed = true then ((-(HW : Int) : Int) : Rat) else 0) (hU : U_ = if signed = true then ((HW : Int) : Rat) else ((PW : Int) : Rat)) (u : Nat) (hub : (digs u).length ≤ 1000) (b1 : qw x + qw L_ ≤ 14000) (b2 : qw x + qw U_ ≤ 14000) (b3 : qw x + qw ((PW : Int) : Rat) ≤ 14000)
    (hu : ¬ cmpQ x L_ < 0 → ¬ 0 ≤ cmpQ x U_ → (if qn x = true then qt (x + ((PW : Int) : Rat)) = u else qt x = u))
    (ans : List UInt8 × Int) (ha1 : cmpQ x L_ < 0 ∨ 0 ≤ cmpQ x U_ → ans = ([], 4)) (ha2 : ¬ cmpQ x L_ < 0 → ¬ 0 ≤ cmpQ x U_ → ans = (outB s big u, 0)) :
    Calls Try.prog 41 #[.int .i64 (s : Int), .bool big, .bool signed, V] w (RetBE w ans) := by
  have hs := fun V w' h => resound_any V (rwq x) (rwq 0) w' h
  rw [hn] at hs
  have hw := fun V w' h => rwhole1_any V (rwq x) (rwq 0) w' h
  rw [hwb] at hw
  clear hn hwb
  obtain ⟨A1, c1, D1, d1, A2, c2, D2, d2, rfl, p1, p2, p3, p4⟩ := hV
  have Ha : VN w w.heap.size (.agg #[.bool (qn x), .slice A1 (digs (qt x)).length c1, .slice D1 (digs (qd x)).length d1, .bool (qn (0 : Rat)), .slice A2 (digs (qt (0 : Rat))).length c2, .slice D2 (digs (qd (0 : Rat))).length d2]) (rwq x) (rwq 0) := ⟨A1, c1, D1, d1, A2, c2, D2, d2, rfl, p1, p2, p3, p4⟩
  have B1 := bal w (.cells #[.bool (qn x), .slice A1 (digs (qt x)).length c1, .slice D1 (digs (qd x)).length d1, .bool (qn (0 : Rat)), .slice A2 (digs (qt (0 : Rat))).length c2, .slice D2 (digs (qd (0 : Rat))).length d2] 27)
  have S1 := SB.new w [.bool (qn x), .slice A1 (digs (qt x)).length c1, .slice D1 (digs (qd x)).length d1, .bool (qn (0 : Rat)), .slice A2 (digs (qt (0 : Rat))).length c2, .slice D2 (digs (qd (0 : Rat))).length d2] 27
  have i0 := S1.cell 0
  have i1 := S1.cell 1
  have i2 := S1.cell 2
  have i3 := S1.cell 3
  have i4 := S1.cell 4
  have i5 := S1.cell 5
  simp only [rwq] at p1 p2 p3 p4
  go_enter Try.func41, Try.ntmps41
  go_wp2_with fail
  refine (hs _ _ (Ha.st B1)).mono ?_; rintro e w3 ⟨rfl, B3⟩
  clear i0 i1 i2 i3 i4 i5 hs
  have S3 := S1.nx B3
  have C3 := bt B1 B3
  have i0 := S3.cell 0
  have i1 := S3.cell 1
  have i2 := S3.cell 2
  have i3 := S3.cell 3
  have i4 := S3.cell 4
  have i5 := S3.cell 5
  go_wp2_with fail
  refine (hw _ _ (Ha.st C3)).mono ?_; rintro e w4 ⟨rfl, B4⟩
  clear i0 i1 i2 i3 i4 i5 hw
  have S4 := S3.nx B4
  have C4 := bt C3 B4
  have e8 : IntKind.i64.wrap (8 * (s : Int)) = 8 * (s : Int) := IntWalk.i64_in _ (by omega)
  have e9 : IntKind.i64.wrap (8 * (s : Int) - 1) = 8 * (s : Int) - 1 := IntWalk.i64_in _ (by omega)
  have hU := rup_any (some ⟨w4.heap.size, 0, none⟩) 1 1 [1] (w4.alloc (.cells #[.int .u32 (1 : Int)] 53)) (8 * s) (by omega) rfl ((RW.one w4 53 (show 1 < 4294967296 by omega)).more (by simp)) (by simp)
  rw [val_one, Nat.one_mul, hPW.out, show ((8 * s : Nat) : Int) = 8 * (s : Int) by omega] at hU
  go_wp2_with fail
  refine hU.mono ?_; rintro e w8 ⟨A8, c8, rfl, O8, Bu⟩
  clear hU
  have Bo := bal w4 (.cells #[.int .u32 (1 : Int)] 53)
  have Bp := bal w8 (.cells #[.int .u32 (1 : Int)] 53)
  have Bq := bal (w8.alloc (.cells #[.int .u32 (1 : Int)] 53)) (.cells #[.bool false, .slice A8 (digs PW).length c8, .slice (some ⟨w8.heap.size, 0, none⟩) 1 1] 25)
  have z8 : (w8.alloc (.cells #[.int .u32 (1 : Int)] 53)).heap.size = w8.heap.size + 1 := by simp
  have ON : OW (w8.alloc (.cells #[.int .u32 (1 : Int)] 53)) w8.heap.size (some ⟨w8.heap.size, 0, none⟩) 1 [1] := OW.lit w8 [1] (by simp) (by rw [← digs_one1]; exact B32_digs 1)
  have S10 := SB.new (w8.alloc (.cells #[.int .u32 (1 : Int)] 53)) [.bool false, .slice A8 (digs PW).length c8, .slice (some ⟨w8.heap.size, 0, none⟩) 1 1] 25
  rw [z8] at S10
  have BA := bt (bt Bo Bu) (bt Bp Bq)
  have R1 := st (st O8.rw Bp) Bq
  have R2 := st ON.rw Bq
  have QF : RQ ((w8.alloc (.cells #[.int .u32 (1 : Int)] 53)).alloc (.cells #[.bool false, .slice A8 (digs PW).length c8, .slice (some ⟨w8.heap.size, 0, none⟩) 1 1] 25)) ((w8.alloc (.cells #[.int .u32 (1 : Int)] 53)).alloc (.cells #[.bool false, .slice A8 (digs PW).length c8, .slice (some ⟨w8.heap.size, 0, none⟩) 1 1] 25)).heap.size (.agg #[.bool false, .slice A8 (digs PW).length c8, .slice (some ⟨w8.heap.size, 0, none⟩) 1 1]) ((PW : Int) : Rat) := rq_pos R1 R2
  have S4 := S4.nx BA
  have C9 := bt C4 BA
  obtain ⟨W9, hW9⟩ : ∃ W9, W9 = (w8.alloc (.cells #[.int .u32 (1 : Int)] 53)).alloc (.cells #[.bool false, .slice A8 (digs PW).length c8, .slice (some ⟨w8.heap.size, 0, none⟩) 1 1] 25) := ⟨_, rfl⟩
  rw [← hW9] at S10 QF S4 C9
  go_upto_region 6 with fail
  rw [← hW9]
  clear hW9 R1 R2 ON z8 Bo Bp Bq Bu O8 BA C4 C3
  have hU := rup_any (some ⟨W9.heap.size, 0, none⟩) 1 1 [1] (W9.alloc (.cells #[.int .u32 (1 : Int)] 53)) (8 * s - 1) (by omega) rfl ((RW.one W9 53 (show 1 < 4294967296 by omega)).more (by simp)) (by simp)
  rw [val_one, Nat.one_mul, hHW.out, show ((8 * s - 1 : Nat) : Int) = 8 * (s : Int) - 1 by omega] at hU
  go_wp2_with fail
  refine hU.mono ?_; rintro e w9 ⟨A9, c9, rfl, O9, Bu⟩
  clear hU
  have Bo := bal W9 (.cells #[.int .u32 (1 : Int)] 53)
  have Bp := bal w9 (.cells #[.int .u32 (1 : Int)] 53)
  have Bq := bal (w9.alloc (.cells #[.int .u32 (1 : Int)] 53)) (.cells #[.bool false, .slice A9 (digs HW).length c9, .slice (some ⟨w9.heap.size, 0, none⟩) 1 1] 25)
  have z8 : (w9.alloc (.cells #[.int .u32 (1 : Int)] 53)).heap.size = w9.heap.size + 1 := by simp
  have ON : OW (w9.alloc (.cells #[.int .u32 (1 : Int)] 53)) w9.heap.size (some ⟨w9.heap.size, 0, none⟩) 1 [1] := OW.lit w9 [1] (by simp) (by rw [← digs_one1]; exact B32_digs 1)
  have S11 := SB.new (w9.alloc (.cells #[.int .u32 (1 : Int)] 53)) [.bool false, .slice A9 (digs HW).length c9, .slice (some ⟨w9.heap.size, 0, none⟩) 1 1] 25
  rw [z8] at S11
  have BA := bt (bt Bo Bu) (bt Bp Bq)
  have R1 := st (st O9.rw Bp) Bq
  have R2 := st ON.rw Bq
  have QH : RQ ((w9.alloc (.cells #[.int .u32 (1 : Int)] 53)).alloc (.cells #[.bool false, .slice A9 (digs HW).length c9, .slice (some ⟨w9.heap.size, 0, none⟩) 1 1] 25)) ((w9.alloc (.cells #[.int .u32 (1 : Int)] 53)).alloc (.cells #[.bool false, .slice A9 (digs HW).length c9, .slice (some ⟨w9.heap.size, 0, none⟩) 1 1] 25)).heap.size (.agg #[.bool false, .slice A9 (digs HW).length c9, .slice (some ⟨w9.heap.size, 0, none⟩) 1 1]) ((HW : Int) : Rat) := rq_pos R1 R2
  have S4 := S4.nx BA
  have C10 := bt C9 BA
  have S10 := S10.nx BA
  have QF := QF.st BA
  obtain ⟨W10, hW10⟩ : ∃ W10, W10 = (w9.alloc (.cells #[.int .u32 (1 : Int)] 53)).alloc (.cells #[.bool false, .slice A9 (digs HW).length c9, .slice (some ⟨w9.heap.size, 0, none⟩) 1 1] 25) := ⟨_, rfl⟩
  have RH1 := R1
  have RH2 := R2
  rw [← hW10] at S10 QF S4 C10 S11 QH RH1 RH2
  go_upto_region 7 with fail
  rw [← hW10]
  clear hW10 R1 R2 ON z8 Bo Bp Bq Bu O9 BA C9
  generalize w8.heap.size + 1 = g10 at *
  generalize w9.heap.size + 1 = g11 at *
  go_cut [12, 13] (fun s12 s13 wx => ∃ (g12 g13 : Nat) (Z1 : Option Addr), s12 = .pointer (some ⟨g12, 0, none⟩) ∧ s13 = .pointer (some ⟨g13, 0, none⟩) ∧ SB wx g12 [.bool false, .slice none 0 0, .slice Z1 1 1] ∧ SB wx g13 [.bool false, .slice A8 (digs PW).length c8, .slice (some ⟨w8.heap.size, 0, none⟩) 1 1] ∧ OW wx W10.heap.size Z1 1 [1] ∧ Below W10.heap.size W10 wx ∧ W10.heap.size ≤ g12 ∧ W10.heap.size ≤ g13 ∧ g12 ≠ g13)
  case first =>
    have BB0 : Below W10.heap.size W10 W10.drew := Below.drew (Below.refl _ _)
    refine AnyU.regionQ 5 6 (fun w' => w'.cell? ⟨g10, 0, none⟩ = some (.bool false) ∧ w'.cell? ⟨g10, 1, none⟩ = some (.slice A8 (digs PW).length c8) ∧ w'.cell? ⟨g10, 2, none⟩ = some (.slice (some ⟨w8.heap.size, 0, none⟩) 1 1)) rfl (by kernel_rfl) (by kernel_rfl) (by repeat (first | refine quiet_then ?_ | refine quiet_block ?_ | exact quiet_body)) ⟨(S10.nx BB0).cell 0, (S10.nx BB0).cell 1, (S10.nx BB0).cell 2⟩ (fun Q hQK hq' hns hHeld => ?_)
    generalize W10.drew = w30 at *
    refine AnyU.next (i := 1) (v := ?_) hq' hns hHeld rfl rfl (by kernel_rfl) (Or.inl ⟨by rfl, ?_⟩) ?_
    rotate_left
    · intro w' hSw; (try dsimp only at hSw); go_simp <;> with_reducible rfl
    try simp only [List.setIfInBounds_toArray, List.set_cons_zero, List.set_cons_succ]
    refine AnyU.three (i := 0) (j := 2) (m := 3) (by kernel_rfl) (USome.mk rfl (fun K hK => ?_)) (USome.mk rfl (fun K hK => ?_)) (USome.mk rfl (fun K hK => ?_))
    · go_simp
      refine (rzero0_any _).mono ?_; rintro e w31 ⟨Z1, rfl, OZ1, BX⟩
      go_wp2_with fail
      have OZ1 := OZ1.base_le (Nat.le_trans (BB0.size) (Nat.le_succ _))
      have BB31 := bt BB0 BX
      clear BX
      refine hK.out _ _ (.inr ⟨(S10.nx BB31).cell 0, (S10.nx BB31).cell 1, (S10.nx BB31).cell 2⟩) (fun hHeld => ?_)
      have hHeld := hHeld.resolve_left (by decide)
      clear hK K
      try simp only [List.setIfInBounds_toArray, List.set_cons_zero, List.set_cons_succ]
      refine AnyU.two (i := 2) (j := 3) (by kernel_rfl) (USome.mk rfl (fun K hK => ?_)) (USome.mk rfl (fun K hK => ?_))
      · go_simp
        have X12 := SB.new w31 [.bool false, .slice none 0 0, .slice none 0 0] 25
        have BX := bal w31 (.cells #[.bool false, .slice none 0 0, .slice none 0 0] 25)
        have BB32 := bt BB31 BX
        have hwg12 : W10.heap.size ≤ w31.heap.size := BB31.size
        have hnZ1g12 : ∀ b, Z1 = some ⟨b, 0, none⟩ → b ≠ w31.heap.size := fun b hb => by subst hb; exact Nat.ne_of_lt OZ1.lt.2
        have OZ1 := OZ1.below BX (Nat.le_refl _)
        obtain ⟨w32, hw32⟩ : ∃ w32, w32 = w31.alloc (.cells #[.bool false, .slice none 0 0, .slice none 0 0] 25) := ⟨_, rfl⟩
        rw [← hw32] at X12 BB32 OZ1 ⊢
        clear hw32 BX
        generalize w31.heap.size = g12 at *
        refine hK.out _ _ (.inr ⟨(S10.nx BB32).cell 0, (S10.nx BB32).cell 1, (S10.nx BB32).cell 2⟩) (fun hHeld => ?_)
        have hHeld := hHeld.resolve_left (by decide)
        clear hK K
        try simp only [List.setIfInBounds_toArray, List.set_cons_zero, List.set_cons_succ]
        refine AnyU.one 3 (by kernel_rfl) rfl (fun K hK => ?_)
        go_simp
        have X13 := SB.new w32 [.bool false, .slice none 0 0, .slice none 0 0] 25
        have BX := bal w32 (.cells #[.bool false, .slice none 0 0, .slice none 0 0] 25)
        have BB33 := bt BB32 BX
        have hwg13 : W10.heap.size ≤ w32.heap.size := BB32.size
        have hnZ1g13 : ∀ b, Z1 = some ⟨b, 0, none⟩ → b ≠ w32.heap.size := fun b hb => by subst hb; exact Nat.ne_of_lt OZ1.lt.2
        have hltg13 := X12.2
        have X12 := X12.nx BX
        have OZ1 := OZ1.below BX (Nat.le_refl _)
        obtain ⟨w33, hw33⟩ : ∃ w33, w33 = w32.alloc (.cells #[.bool false, .slice none 0 0, .slice none 0 0] 25) := ⟨_, rfl⟩
        rw [← hw33] at X13 BB33 X12 OZ1 ⊢
        clear hw33 BX
        generalize w32.heap.size = g13 at *
        refine hK.out _ _ (.inr ⟨(S10.nx BB33).cell 0, (S10.nx BB33).cell 1, (S10.nx BB33).cell 2⟩) (fun hHeld => ?_)
        have hHeld := hHeld.resolve_left (by decide)
        clear hK K
        try simp only [List.setIfInBounds_toArray, List.set_cons_zero, List.set_cons_succ]
        have i0 := X12.cell 0
        have i1 := X12.cell 1
        have i2 := X12.cell 2
        have f0 := X12.frozen 0
        have f1 := X12.frozen 1
        have f2 := X12.frozen 2
        refine AnyU.one 4 (by kernel_rfl) rfl (fun K hK => ?_)
        go_simp
        have BBa := wr3_below (b := g12) BB33 hwg12 (.bool false) (.slice none 0 0) (.slice Z1 1 1)
        refine hK.out _ _ (.inr ⟨(S10.nx BBa).cell 0, (S10.nx BBa).cell 1, (S10.nx BBa).cell 2⟩) (fun hHeld => ?_)
        clear hK K hHeld
        try simp only [List.setIfInBounds_toArray, List.set_cons_zero, List.set_cons_succ]
        clear i0 i1 i2 f0 f1 f2
        have hne : g13 ≠ g12 := by omega
        have X13 := X13.wr3 (r := g12) hne (.bool false) (.slice none 0 0) (.slice Z1 1 1)
        have X12 := X12.put3 (.bool false) (.slice none 0 0) (.slice Z1 1 1)
        have OZ1 := OZ1.far3 hnZ1g12 (.bool false) (.slice none 0 0) (.slice Z1 1 1)
        obtain ⟨Wa, hWa⟩ : ∃ Wa, (((w33.setCell ⟨g12, 0, none⟩ (.bool false)).setCell ⟨g12, 1, none⟩ (.slice none 0 0)).setCell ⟨g12, 2, none⟩ (.slice Z1 1 1)) = Wa := ⟨_, rfl⟩
        rw [hWa]
        unfold wr3 at X12 X13 OZ1 BBa
        rw [hWa] at X12 X13 OZ1 BBa
        clear hWa
        have i0 := X13.cell 0
        have i1 := X13.cell 1
        have i2 := X13.cell 2
        have f0 := X13.frozen 0
        have f1 := X13.frozen 1
        have f2 := X13.frozen 2
        refine AnyU.one 5 (by kernel_rfl) rfl (fun K hK => ?_)
        go_simp
        refine hK.out _ _ (.inl rfl) (fun _ => ?_)
        clear hK K
        try simp only [List.setIfInBounds_toArray, List.set_cons_zero, List.set_cons_succ]
        clear i0 i1 i2 f0 f1 f2
        refine AnyU.done (by kernel_rfl) (hQK.out _ _ ?_)
        go_wp2_with fail
        go_meet
        have BBb := wr3_below (b := g13) BBa hwg13 (.bool false) (.slice A8 (digs PW).length c8) (.slice (some ⟨w8.heap.size, 0, none⟩) 1 1)
        have X12 := X12.wr3 (r := g13) (Ne.symm hne) (.bool false) (.slice A8 (digs PW).length c8) (.slice (some ⟨w8.heap.size, 0, none⟩) 1 1)
        have X13 := X13.put3 (.bool false) (.slice A8 (digs PW).length c8) (.slice (some ⟨w8.heap.size, 0, none⟩) 1 1)
        have OZ1 := OZ1.far3 hnZ1g13 (.bool false) (.slice A8 (digs PW).length c8) (.slice (some ⟨w8.heap.size, 0, none⟩) 1 1)
        exact ⟨g12, g13, Z1, rfl, rfl, X12, X13, OZ1, BBb, hwg12, hwg13, Ne.symm hne⟩
      · go_simp
        have X13 := SB.new w31 [.bool false, .slice none 0 0, .slice none 0 0] 25
        have BX := bal w31 (.cells #[.bool false, .slice none 0 0, .slice none 0 0] 25)
        have BB34 := bt BB31 BX
        have hwg13 : W10.heap.size ≤ w31.heap.size := BB31.size
        have hnZ1g13 : ∀ b, Z1 = some ⟨b, 0, none⟩ → b ≠ w31.heap.size := fun b hb => by subst hb; exact Nat.ne_of_lt OZ1.lt.2
        have OZ1 := OZ1.below BX (Nat.le_refl _)
        obtain ⟨w34, hw34⟩ : ∃ w34, w34 = w31.alloc (.cells #[.bool false, .slice none 0 0, .slice none 0 0] 25) := ⟨_, rfl⟩
        rw [← hw34] at X13 BB34 OZ1 ⊢
        clear hw34 BX
        generalize w31.heap.size = g13 at *
        refine hK.out _ _ (.inr ⟨(S10.nx BB34).cell 0, (S10.nx BB34).cell 1, (S10.nx BB34).cell 2⟩) (fun hHeld => ?_)
        have hHeld := hHeld.resolve_left (by decide)
        clear hK K
        try simp only [List.setIfInBounds_toArray, List.set_cons_zero, List.set_cons_succ]
        refine AnyU.one 2 (by kernel_rfl) rfl (fun K hK => ?_)
        go_simp
        have X12 := SB.new w34 [.bool false, .slice none 0 0, .slice none 0 0] 25
        have BX := bal w34 (.cells #[.bool false, .slice none 0 0, .slice none 0 0] 25)
        have BB35 := bt BB34 BX
        have hwg12 : W10.heap.size ≤ w34.heap.size := BB34.size
        have hnZ1g12 : ∀ b, Z1 = some ⟨b, 0, none⟩ → b ≠ w34.heap.size := fun b hb => by subst hb; exact Nat.ne_of_lt OZ1.lt.2
        have hltg12 := X13.2
        have X13 := X13.nx BX
        have OZ1 := OZ1.below BX (Nat.le_refl _)
        obtain ⟨w35, hw35⟩ : ∃ w35, w35 = w34.alloc (.cells #[.bool false, .slice none 0 0, .slice none 0 0] 25) := ⟨_, rfl⟩
        rw [← hw35] at X12 BB35 X13 OZ1 ⊢
        clear hw35 BX
        generalize w34.heap.size = g12 at *
        refine hK.out _ _ (.inr ⟨(S10.nx BB35).cell 0, (S10.nx BB35).cell 1, (S10.nx BB35).cell 2⟩) (fun hHeld => ?_)
        have hHeld := hHeld.resolve_left (by decide)
        clear hK K
        try simp only [List.setIfInBounds_toArray, List.set_cons_zero, List.set_cons_succ]
        have i0 := X12.cell 0
        have i1 := X12.cell 1
        have i2 := X12.cell 2
        have f0 := X12.frozen 0
        have f1 := X12.frozen 1
        have f2 := X12.frozen 2
        refine AnyU.one 4 (by kernel_rfl) rfl (fun K hK => ?_)
        go_simp
        have BBa := wr3_below (b := g12) BB35 hwg12 (.bool false) (.slice none 0 0) (.slice Z1 1 1)
        refine hK.out _ _ (.inr ⟨(S10.nx BBa).cell 0, (S10.nx BBa).cell 1, (S10.nx BBa).cell 2⟩) (fun hHeld => ?_)
        clear hK K hHeld
        try simp only [List.setIfInBounds_toArray, List.set_cons_zero, List.set_cons_succ]
        clear i0 i1 i2 f0 f1 f2
        have hne : g13 ≠ g12 := by omega
        have X13 := X13.wr3 (r := g12) hne (.bool false) (.slice none 0 0) (.slice Z1 1 1)
        have X12 := X12.put3 (.bool false) (.slice none 0 0) (.slice Z1 1 1)
        have OZ1 := OZ1.far3 hnZ1g12 (.bool false) (.slice none 0 0) (.slice Z1 1 1)
        obtain ⟨Wa, hWa⟩ : ∃ Wa, (((w35.setCell ⟨g12, 0, none⟩ (.bool false)).setCell ⟨g12, 1, none⟩ (.slice none 0 0)).setCell ⟨g12, 2, none⟩ (.slice Z1 1 1)) = Wa := ⟨_, rfl⟩
        rw [hWa]
        unfold wr3 at X12 X13 OZ1 BBa
        rw [hWa] at X12 X13 OZ1 BBa
        clear hWa
        have i0 := X13.cell 0
        have i1 := X13.cell 1
        have i2 := X13.cell 2
        have f0 := X13.frozen 0
        have f1 := X13.frozen 1
        have f2 := X13.frozen 2
        refine AnyU.one 5 (by kernel_rfl) rfl (fun K hK => ?_)
        go_simp
        refine hK.out _ _ (.inl rfl) (fun _ => ?_)
        clear hK K
        try simp only [List.setIfInBounds_toArray, List.set_cons_zero, List.set_cons_succ]
        clear i0 i1 i2 f0 f1 f2
        refine AnyU.done (by kernel_rfl) (hQK.out _ _ ?_)
        go_wp2_with fail
        go_meet
        have BBb := wr3_below (b := g13) BBa hwg13 (.bool false) (.slice A8 (digs PW).length c8) (.slice (some ⟨w8.heap.size, 0, none⟩) 1 1)
        have X12 := X12.wr3 (r := g13) (Ne.symm hne) (.bool false) (.slice A8 (digs PW).length c8) (.slice (some ⟨w8.heap.size, 0, none⟩) 1 1)
        have X13 := X13.put3 (.bool false) (.slice A8 (digs PW).length c8) (.slice (some ⟨w8.heap.size, 0, none⟩) 1 1)
        have OZ1 := OZ1.far3 hnZ1g13 (.bool false) (.slice A8 (digs PW).length c8) (.slice (some ⟨w8.heap.size, 0, none⟩) 1 1)
        exact ⟨g12, g13, Z1, rfl, rfl, X12, X13, OZ1, BBb, hwg12, hwg13, Ne.symm hne⟩
    · go_simp
      have X12 := SB.new w30 [.bool false, .slice none 0 0, .slice none 0 0] 25
      have BX := bal w30 (.cells #[.bool false, .slice none 0 0, .slice none 0 0] 25)
      have BB36 := bt BB0 BX
      have hwg12 : W10.heap.size ≤ w30.heap.size := BB0.size
      obtain ⟨w36, hw36⟩ : ∃ w36, w36 = w30.alloc (.cells #[.bool false, .slice none 0 0, .slice none 0 0] 25) := ⟨_, rfl⟩
      rw [← hw36] at X12 BB36 ⊢
      clear hw36 BX
      generalize w30.heap.size = g12 at *
      refine hK.out _ _ (.inr ⟨(S10.nx BB36).cell 0, (S10.nx BB36).cell 1, (S10.nx BB36).cell 2⟩) (fun hHeld => ?_)
      have hHeld := hHeld.resolve_left (by decide)
      clear hK K
      try simp only [List.setIfInBounds_toArray, List.set_cons_zero, List.set_cons_succ]
      refine AnyU.two (i := 0) (j := 3) (by kernel_rfl) (USome.mk rfl (fun K hK => ?_)) (USome.mk rfl (fun K hK => ?_))
      · go_simp
        refine (rzero0_any _).mono ?_; rintro e w37 ⟨Z1, rfl, OZ1, BX⟩
        go_wp2_with fail
        have hnZ1g12 : ∀ b, Z1 = some ⟨b, 0, none⟩ → b ≠ g12 := fun b hb => by subst hb; have h1 := OZ1.lt.1; have h2 := X12.2; omega
        have OZ1 := OZ1.base_le (Nat.le_trans (BB36.size) (Nat.le_succ _))
        have X12 := X12.nx BX
        have BB37 := bt BB36 BX
        clear BX
        refine hK.out _ _ (.inr ⟨(S10.nx BB37).cell 0, (S10.nx BB37).cell 1, (S10.nx BB37).cell 2⟩) (fun hHeld => ?_)
        have hHeld := hHeld.resolve_left (by decide)
        clear hK K
        try simp only [List.setIfInBounds_toArray, List.set_cons_zero, List.set_cons_succ]
        refine AnyU.one 3 (by kernel_rfl) rfl (fun K hK => ?_)
        go_simp
        have X13 := SB.new w37 [.bool false, .slice none 0 0, .slice none 0 0] 25
        have BX := bal w37 (.cells #[.bool false, .slice none 0 0, .slice none 0 0] 25)
        have BB38 := bt BB37 BX
        have hwg13 : W10.heap.size ≤ w37.heap.size := BB37.size
        have hnZ1g13 : ∀ b, Z1 = some ⟨b, 0, none⟩ → b ≠ w37.heap.size := fun b hb => by subst hb; exact Nat.ne_of_lt OZ1.lt.2
        have hltg13 := X12.2
        have X12 := X12.nx BX
        have OZ1 := OZ1.below BX (Nat.le_refl _)
        obtain ⟨w38, hw38⟩ : ∃ w38, w38 = w37.alloc (.cells #[.bool false, .slice none 0 0, .slice none 0 0] 25) := ⟨_, rfl⟩
        rw [← hw38] at X13 BB38 X12 OZ1 ⊢
        clear hw38 BX
        generalize w37.heap.size = g13 at *
        refine hK.out _ _ (.inr ⟨(S10.nx BB38).cell 0, (S10.nx BB38).cell 1, (S10.nx BB38).cell 2⟩) (fun hHeld => ?_)
        have hHeld := hHeld.resolve_left (by decide)
        clear hK K
        try simp only [List.setIfInBounds_toArray, List.set_cons_zero, List.set_cons_succ]
        have i0 := X12.cell 0
        have i1 := X12.cell 1
        have i2 := X12.cell 2
        have f0 := X12.frozen 0
        have f1 := X12.frozen 1
        have f2 := X12.frozen 2
        refine AnyU.one 4 (by kernel_rfl) rfl (fun K hK => ?_)
        go_simp
        have BBa := wr3_below (b := g12) BB38 hwg12 (.bool false) (.slice none 0 0) (.slice Z1 1 1)
        refine hK.out _ _ (.inr ⟨(S10.nx BBa).cell 0, (S10.nx BBa).cell 1, (S10.nx BBa).cell 2⟩) (fun hHeld => ?_)
        clear hK K hHeld
        try simp only [List.setIfInBounds_toArray, List.set_cons_zero, List.set_cons_succ]
        clear i0 i1 i2 f0 f1 f2
        have hne : g13 ≠ g12 := by omega
        have X13 := X13.wr3 (r := g12) hne (.bool false) (.slice none 0 0) (.slice Z1 1 1)
        have X12 := X12.put3 (.bool false) (.slice none 0 0) (.slice Z1 1 1)
        have OZ1 := OZ1.far3 hnZ1g12 (.bool false) (.slice none 0 0) (.slice Z1 1 1)
        obtain ⟨Wa, hWa⟩ : ∃ Wa, (((w38.setCell ⟨g12, 0, none⟩ (.bool false)).setCell ⟨g12, 1, none⟩ (.slice none 0 0)).setCell ⟨g12, 2, none⟩ (.slice Z1 1 1)) = Wa := ⟨_, rfl⟩
        rw [hWa]
        unfold wr3 at X12 X13 OZ1 BBa
        rw [hWa] at X12 X13 OZ1 BBa
        clear hWa
        have i0 := X13.cell 0
        have i1 := X13.cell 1
        have i2 := X13.cell 2
        have f0 := X13.frozen 0
        have f1 := X13.frozen 1
        have f2 := X13.frozen 2
        refine AnyU.one 5 (by kernel_rfl) rfl (fun K hK => ?_)
        go_simp
        refine hK.out _ _ (.inl rfl) (fun _ => ?_)
        clear hK K
        try simp only [List.setIfInBounds_toArray, List.set_cons_zero, List.set_cons_succ]
        clear i0 i1 i2 f0 f1 f2
        refine AnyU.done (by kernel_rfl) (hQK.out _ _ ?_)
        go_wp2_with fail
        go_meet
        have BBb := wr3_below (b := g13) BBa hwg13 (.bool false) (.slice A8 (digs PW).length c8) (.slice (some ⟨w8.heap.size, 0, none⟩) 1 1)
        have X12 := X12.wr3 (r := g13) (Ne.symm hne) (.bool false) (.slice A8 (digs PW).length c8) (.slice (some ⟨w8.heap.size, 0, none⟩) 1 1)
        have X13 := X13.put3 (.bool false) (.slice A8 (digs PW).length c8) (.slice (some ⟨w8.heap.size, 0, none⟩) 1 1)
        have OZ1 := OZ1.far3 hnZ1g13 (.bool false) (.slice A8 (digs PW).length c8) (.slice (some ⟨w8.heap.size, 0, none⟩) 1 1)
        exact ⟨g12, g13, Z1, rfl, rfl, X12, X13, OZ1, BBb, hwg12, hwg13, Ne.symm hne⟩
      · go_simp
        have X13 := SB.new w36 [.bool false, .slice none 0 0, .slice none 0 0] 25
        have BX := bal w36 (.cells #[.bool false, .slice none 0 0, .slice none 0 0] 25)
        have BB39 := bt BB36 BX
        have hwg13 : W10.heap.size ≤ w36.heap.size := BB36.size
        have hltg13 := X12.2
        have X12 := X12.nx BX
        obtain ⟨w39, hw39⟩ : ∃ w39, w39 = w36.alloc (.cells #[.bool false, .slice none 0 0, .slice none 0 0] 25) := ⟨_, rfl⟩
        rw [← hw39] at X13 BB39 X12 ⊢
        clear hw39 BX
        generalize w36.heap.size = g13 at *
        refine hK.out _ _ (.inr ⟨(S10.nx BB39).cell 0, (S10.nx BB39).cell 1, (S10.nx BB39).cell 2⟩) (fun hHeld => ?_)
        have hHeld := hHeld.resolve_left (by decide)
        clear hK K
        try simp only [List.setIfInBounds_toArray, List.set_cons_zero, List.set_cons_succ]
        refine AnyU.one 0 (by kernel_rfl) rfl (fun K hK => ?_)
        go_simp
        refine (rzero0_any _).mono ?_; rintro e w40 ⟨Z1, rfl, OZ1, BX⟩
        go_wp2_with fail
        have hnZ1g12 : ∀ b, Z1 = some ⟨b, 0, none⟩ → b ≠ g12 := fun b hb => by subst hb; have h1 := OZ1.lt.1; have h2 := X12.2; omega
        have hnZ1g13 : ∀ b, Z1 = some ⟨b, 0, none⟩ → b ≠ g13 := fun b hb => by subst hb; have h1 := OZ1.lt.1; have h2 := X13.2; omega
        have OZ1 := OZ1.base_le (Nat.le_trans (BB39.size) (Nat.le_succ _))
        have X12 := X12.nx BX
        have X13 := X13.nx BX
        have BB40 := bt BB39 BX
        clear BX
        refine hK.out _ _ (.inr ⟨(S10.nx BB40).cell 0, (S10.nx BB40).cell 1, (S10.nx BB40).cell 2⟩) (fun hHeld => ?_)
        have hHeld := hHeld.resolve_left (by decide)
        clear hK K
        try simp only [List.setIfInBounds_toArray, List.set_cons_zero, List.set_cons_succ]
        have i0 := X12.cell 0
        have i1 := X12.cell 1
        have i2 := X12.cell 2
        have f0 := X12.frozen 0
        have f1 := X12.frozen 1
        have f2 := X12.frozen 2
        refine AnyU.one 4 (by kernel_rfl) rfl (fun K hK => ?_)
        go_simp
        have BBa := wr3_below (b := g12) BB40 hwg12 (.bool false) (.slice none 0 0) (.slice Z1 1 1)
        refine hK.out _ _ (.inr ⟨(S10.nx BBa).cell 0, (S10.nx BBa).cell 1, (S10.nx BBa).cell 2⟩) (fun hHeld => ?_)
        clear hK K hHeld
        try simp only [List.setIfInBounds_toArray, List.set_cons_zero, List.set_cons_succ]
        clear i0 i1 i2 f0 f1 f2
        have hne : g13 ≠ g12 := by omega
        have X13 := X13.wr3 (r := g12) hne (.bool false) (.slice none 0 0) (.slice Z1 1 1)
        have X12 := X12.put3 (.bool false) (.slice none 0 0) (.slice Z1 1 1)
        have OZ1 := OZ1.far3 hnZ1g12 (.bool false) (.slice none 0 0) (.slice Z1 1 1)
        obtain ⟨Wa, hWa⟩ : ∃ Wa, (((w40.setCell ⟨g12, 0, none⟩ (.bool false)).setCell ⟨g12, 1, none⟩ (.slice none 0 0)).setCell ⟨g12, 2, none⟩ (.slice Z1 1 1)) = Wa := ⟨_, rfl⟩
        rw [hWa]
        unfold wr3 at X12 X13 OZ1 BBa
        rw [hWa] at X12 X13 OZ1 BBa
        clear hWa
        have i0 := X13.cell 0
        have i1 := X13.cell 1
        have i2 := X13.cell 2
        have f0 := X13.frozen 0
        have f1 := X13.frozen 1
        have f2 := X13.frozen 2
        refine AnyU.one 5 (by kernel_rfl) rfl (fun K hK => ?_)
        go_simp
        refine hK.out _ _ (.inl rfl) (fun _ => ?_)
        clear hK K
        try simp only [List.setIfInBounds_toArray, List.set_cons_zero, List.set_cons_succ]
        clear i0 i1 i2 f0 f1 f2
        refine AnyU.done (by kernel_rfl) (hQK.out _ _ ?_)
        go_wp2_with fail
        go_meet
        have BBb := wr3_below (b := g13) BBa hwg13 (.bool false) (.slice A8 (digs PW).length c8) (.slice (some ⟨w8.heap.size, 0, none⟩) 1 1)
        have X12 := X12.wr3 (r := g13) (Ne.symm hne) (.bool false) (.slice A8 (digs PW).length c8) (.slice (some ⟨w8.heap.size, 0, none⟩) 1 1)
        have X13 := X13.put3 (.bool false) (.slice A8 (digs PW).length c8) (.slice (some ⟨w8.heap.size, 0, none⟩) 1 1)
        have OZ1 := OZ1.far3 hnZ1g13 (.bool false) (.slice A8 (digs PW).length c8) (.slice (some ⟨w8.heap.size, 0, none⟩) 1 1)
        exact ⟨g12, g13, Z1, rfl, rfl, X12, X13, OZ1, BBb, hwg12, hwg13, Ne.symm hne⟩
    · go_simp
      have X13 := SB.new w30 [.bool false, .slice none 0 0, .slice none 0 0] 25
      have BX := bal w30 (.cells #[.bool false, .slice none 0 0, .slice none 0 0] 25)
      have BB41 := bt BB0 BX
      have hwg13 : W10.heap.size ≤ w30.heap.size := BB0.size
      obtain ⟨w41, hw41⟩ : ∃ w41, w41 = w30.alloc (.cells #[.bool false, .slice none 0 0, .slice none 0 0] 25) := ⟨_, rfl⟩
      rw [← hw41] at X13 BB41 ⊢
      clear hw41 BX
      generalize w30.heap.size = g13 at *
      refine hK.out _ _ (.inr ⟨(S10.nx BB41).cell 0, (S10.nx BB41).cell 1, (S10.nx BB41).cell 2⟩) (fun hHeld => ?_)
      have hHeld := hHeld.resolve_left (by decide)
      clear hK K
      try simp only [List.setIfInBounds_toArray, List.set_cons_zero, List.set_cons_succ]
      refine AnyU.two (i := 0) (j := 2) (by kernel_rfl) (USome.mk rfl (fun K hK => ?_)) (USome.mk rfl (fun K hK => ?_))
      · go_simp
        refine (rzero0_any _).mono ?_; rintro e w42 ⟨Z1, rfl, OZ1, BX⟩
        go_wp2_with fail
        have hnZ1g13 : ∀ b, Z1 = some ⟨b, 0, none⟩ → b ≠ g13 := fun b hb => by subst hb; have h1 := OZ1.lt.1; have h2 := X13.2; omega
        have OZ1 := OZ1.base_le (Nat.le_trans (BB41.size) (Nat.le_succ _))
        have X13 := X13.nx BX
        have BB42 := bt BB41 BX
        clear BX
        refine hK.out _ _ (.inr ⟨(S10.nx BB42).cell 0, (S10.nx BB42).cell 1, (S10.nx BB42).cell 2⟩) (fun hHeld => ?_)
        have hHeld := hHeld.resolve_left (by decide)
        clear hK K
        try simp only [List.setIfInBounds_toArray, List.set_cons_zero, List.set_cons_succ]
        refine AnyU.one 2 (by kernel_rfl) rfl (fun K hK => ?_)
        go_simp
        have X12 := SB.new w42 [.bool false, .slice none 0 0, .slice none 0 0] 25
        have BX := bal w42 (.cells #[.bool false, .slice none 0 0, .slice none 0 0] 25)
        have BB43 := bt BB42 BX
        have hwg12 : W10.heap.size ≤ w42.heap.size := BB42.size
        have hnZ1g12 : ∀ b, Z1 = some ⟨b, 0, none⟩ → b ≠ w42.heap.size := fun b hb => by subst hb; exact Nat.ne_of_lt OZ1.lt.2
        have hltg12 := X13.2
        have X13 := X13.nx BX
        have OZ1 := OZ1.below BX (Nat.le_refl _)
        obtain ⟨w43, hw43⟩ : ∃ w43, w43 = w42.alloc (.cells #[.bool false, .slice none 0 0, .slice none 0 0] 25) := ⟨_, rfl⟩
        rw [← hw43] at X12 BB43 X13 OZ1 ⊢
        clear hw43 BX
        generalize w42.heap.size = g12 at *
        refine hK.out _ _ (.inr ⟨(S10.nx BB43).cell 0, (S10.nx BB43).cell 1, (S10.nx BB43).cell 2⟩) (fun hHeld => ?_)
        have hHeld := hHeld.resolve_left (by decide)
        clear hK K
        try simp only [List.setIfInBounds_toArray, List.set_cons_zero, List.set_cons_succ]
        have i0 := X12.cell 0
        have i1 := X12.cell 1
        have i2 := X12.cell 2
        have f0 := X12.frozen 0
        have f1 := X12.frozen 1
        have f2 := X12.frozen 2
        refine AnyU.one 4 (by kernel_rfl) rfl (fun K hK => ?_)
        go_simp
        have BBa := wr3_below (b := g12) BB43 hwg12 (.bool false) (.slice none 0 0) (.slice Z1 1 1)
        refine hK.out _ _ (.inr ⟨(S10.nx BBa).cell 0, (S10.nx BBa).cell 1, (S10.nx BBa).cell 2⟩) (fun hHeld => ?_)
        clear hK K hHeld
        try simp only [List.setIfInBounds_toArray, List.set_cons_zero, List.set_cons_succ]
        clear i0 i1 i2 f0 f1 f2
        have hne : g13 ≠ g12 := by omega
        have X13 := X13.wr3 (r := g12) hne (.bool false) (.slice none 0 0) (.slice Z1 1 1)
        have X12 := X12.put3 (.bool false) (.slice none 0 0) (.slice Z1 1 1)
        have OZ1 := OZ1.far3 hnZ1g12 (.bool false) (.slice none 0 0) (.slice Z1 1 1)
        obtain ⟨Wa, hWa⟩ : ∃ Wa, (((w43.setCell ⟨g12, 0, none⟩ (.bool false)).setCell ⟨g12, 1, none⟩ (.slice none 0 0)).setCell ⟨g12, 2, none⟩ (.slice Z1 1 1)) = Wa := ⟨_, rfl⟩
        rw [hWa]
        unfold wr3 at X12 X13 OZ1 BBa
        rw [hWa] at X12 X13 OZ1 BBa
        clear hWa
        have i0 := X13.cell 0
        have i1 := X13.cell 1
        have i2 := X13.cell 2
        have f0 := X13.frozen 0
        have f1 := X13.frozen 1
        have f2 := X13.frozen 2
        refine AnyU.one 5 (by kernel_rfl) rfl (fun K hK => ?_)
        go_simp
        refine hK.out _ _ (.inl rfl) (fun _ => ?_)
        clear hK K
        try simp only [List.setIfInBounds_toArray, List.set_cons_zero, List.set_cons_succ]
        clear i0 i1 i2 f0 f1 f2
        refine AnyU.done (by kernel_rfl) (hQK.out _ _ ?_)
        go_wp2_with fail
        go_meet
        have BBb := wr3_below (b := g13) BBa hwg13 (.bool false) (.slice A8 (digs PW).length c8) (.slice (some ⟨w8.heap.size, 0, none⟩) 1 1)
        have X12 := X12.wr3 (r := g13) (Ne.symm hne) (.bool false) (.slice A8 (digs PW).length c8) (.slice (some ⟨w8.heap.size, 0, none⟩) 1 1)
        have X13 := X13.put3 (.bool false) (.slice A8 (digs PW).length c8) (.slice (some ⟨w8.heap.size, 0, none⟩) 1 1)
        have OZ1 := OZ1.far3 hnZ1g13 (.bool false) (.slice A8 (digs PW).length c8) (.slice (some ⟨w8.heap.size, 0, none⟩) 1 1)
        exact ⟨g12, g13, Z1, rfl, rfl, X12, X13, OZ1, BBb, hwg12, hwg13, Ne.symm hne⟩
      · go_simp
        have X12 := SB.new w41 [.bool false, .slice none 0 0, .slice none 0 0] 25
        have BX := bal w41 (.cells #[.bool false, .slice none 0 0, .slice none 0 0] 25)
        have BB44 := bt BB41 BX
        have hwg12 : W10.heap.size ≤ w41.heap.size := BB41.size
        have hltg12 := X13.2
        have X13 := X13.nx BX
        obtain ⟨w44, hw44⟩ : ∃ w44, w44 = w41.alloc (.cells #[.bool false, .slice none 0 0, .slice none 0 0] 25) := ⟨_, rfl⟩
        rw [← hw44] at X12 BB44 X13 ⊢
        clear hw44 BX
        generalize w41.heap.size = g12 at *
        refine hK.out _ _ (.inr ⟨(S10.nx BB44).cell 0, (S10.nx BB44).cell 1, (S10.nx BB44).cell 2⟩) (fun hHeld => ?_)
        have hHeld := hHeld.resolve_left (by decide)
        clear hK K
        try simp only [List.setIfInBounds_toArray, List.set_cons_zero, List.set_cons_succ]
        refine AnyU.one 0 (by kernel_rfl) rfl (fun K hK => ?_)
        go_simp
        refine (rzero0_any _).mono ?_; rintro e w45 ⟨Z1, rfl, OZ1, BX⟩
        go_wp2_with fail
        have hnZ1g13 : ∀ b, Z1 = some ⟨b, 0, none⟩ → b ≠ g13 := fun b hb => by subst hb; have h1 := OZ1.lt.1; have h2 := X13.2; omega
        have hnZ1g12 : ∀ b, Z1 = some ⟨b, 0, none⟩ → b ≠ g12 := fun b hb => by subst hb; have h1 := OZ1.lt.1; have h2 := X12.2; omega
        have OZ1 := OZ1.base_le (Nat.le_trans (BB44.size) (Nat.le_succ _))
        have X13 := X13.nx BX
        have X12 := X12.nx BX
        have BB45 := bt BB44 BX
        clear BX
        refine hK.out _ _ (.inr ⟨(S10.nx BB45).cell 0, (S10.nx BB45).cell 1, (S10.nx BB45).cell 2⟩) (fun hHeld => ?_)
        have hHeld := hHeld.resolve_left (by decide)
        clear hK K
        try simp only [List.setIfInBounds_toArray, List.set_cons_zero, List.set_cons_succ]
        have i0 := X12.cell 0
        have i1 := X12.cell 1
        have i2 := X12.cell 2
        have f0 := X12.frozen 0
        have f1 := X12.frozen 1
        have f2 := X12.frozen 2
        refine AnyU.one 4 (by kernel_rfl) rfl (fun K hK => ?_)
        go_simp
        have BBa := wr3_below (b := g12) BB45 hwg12 (.bool false) (.slice none 0 0) (.slice Z1 1 1)
        refine hK.out _ _ (.inr ⟨(S10.nx BBa).cell 0, (S10.nx BBa).cell 1, (S10.nx BBa).cell 2⟩) (fun hHeld => ?_)
        clear hK K hHeld
        try simp only [List.setIfInBounds_toArray, List.set_cons_zero, List.set_cons_succ]
        clear i0 i1 i2 f0 f1 f2
        have hne : g13 ≠ g12 := by omega
        have X13 := X13.wr3 (r := g12) hne (.bool false) (.slice none 0 0) (.slice Z1 1 1)
        have X12 := X12.put3 (.bool false) (.slice none 0 0) (.slice Z1 1 1)
        have OZ1 := OZ1.far3 hnZ1g12 (.bool false) (.slice none 0 0) (.slice Z1 1 1)
        obtain ⟨Wa, hWa⟩ : ∃ Wa, (((w45.setCell ⟨g12, 0, none⟩ (.bool false)).setCell ⟨g12, 1, none⟩ (.slice none 0 0)).setCell ⟨g12, 2, none⟩ (.slice Z1 1 1)) = Wa := ⟨_, rfl⟩
        rw [hWa]
        unfold wr3 at X12 X13 OZ1 BBa
        rw [hWa] at X12 X13 OZ1 BBa
        clear hWa
        have i0 := X13.cell 0
        have i1 := X13.cell 1
        have i2 := X13.cell 2
        have f0 := X13.frozen 0
        have f1 := X13.frozen 1
        have f2 := X13.frozen 2
        refine AnyU.one 5 (by kernel_rfl) rfl (fun K hK => ?_)
        go_simp
        refine hK.out _ _ (.inl rfl) (fun _ => ?_)
        clear hK K
        try simp only [List.setIfInBounds_toArray, List.set_cons_zero, List.set_cons_succ]
        clear i0 i1 i2 f0 f1 f2
        refine AnyU.done (by kernel_rfl) (hQK.out _ _ ?_)
        go_wp2_with fail
        go_meet
        have BBb := wr3_below (b := g13) BBa hwg13 (.bool false) (.slice A8 (digs PW).length c8) (.slice (some ⟨w8.heap.size, 0, none⟩) 1 1)
        have X12 := X12.wr3 (r := g13) (Ne.symm hne) (.bool false) (.slice A8 (digs PW).length c8) (.slice (some ⟨w8.heap.size, 0, none⟩) 1 1)
        have X13 := X13.put3 (.bool false) (.slice A8 (digs PW).length c8) (.slice (some ⟨w8.heap.size, 0, none⟩) 1 1)
        have OZ1 := OZ1.far3 hnZ1g13 (.bool false) (.slice A8 (digs PW).length c8) (.slice (some ⟨w8.heap.size, 0, none⟩) 1 1)
        exact ⟨g12, g13, Z1, rfl, rfl, X12, X13, OZ1, BBb, hwg12, hwg13, Ne.symm hne⟩
  case rest =>
    obtain ⟨g12, g13, Z1, rfl, rfl, s12, s13, OZ1, BB, hg12, hg13, hne⟩ := hcut
    have s11 := S11.nx BB
    have hg11 : g11 < W10.heap.size := S11.2
    have hH0 : 0 < HW := by rw [← hHW.out]; exact Nat.pow_pos (by omega)
    have hdH : decide (0 < (digs HW).length) = true := by rw [← digs_pos_iff]; exact decide_eq_true hH0
    go_upto_if 42 with fail
    go_cut [] (fun wx => ∃ (l0 l1 l2 u0 u1 u2 : Value), SB wx g12 [l0, l1, l2] ∧ SB wx g13 [u0, u1, u2] ∧ RQ wx wx.heap.size (.agg #[l0, l1, l2]) L_ ∧ RQ wx wx.heap.size (.agg #[u0, u1, u2]) U_ ∧ Below W10.heap.size W10 wx)
    case first =>
      cases signed with
      | false =>
        have hL' : L_ = 0 := by rw [hL]; rfl
        have hU' : U_ = ((PW : Int) : Rat) := by rw [hU]; rfl
        clear hL hU
        subst hL' hU'
        go_wp2_with fail
        go_meet
        exact ⟨_, _, _, _, _, _, s12, s13, rq_zero OZ1.rw, QF.st BB, BB⟩
      | true =>
        have hL' : L_ = ((-(HW : Int) : Int) : Rat) := by rw [hL]; rfl
        have hU' : U_ = ((HW : Int) : Rat) := by rw [hU]; rfl
        clear hL hU
        subst hL' hU'
        have hM := fun w' => rminus_raw false A9 (some ⟨w9.heap.size, 0, none⟩) c9 1 (digs HW).length 1 w'
        simp only [Bool.not_false, Bool.true_and, hdH] at hM
        clear hdH
        have BD : Below wc.heap.size wc wc.drew := Below.drew (Below.refl _ _)
        have s12 := s12.nx BD
        have s13 := s13.nx BD
        have s11 := s11.nx BD
        have BB := bt BB BD
        clear BD
        go_upto_region 9 with fail
        refine AnyU.regionQ 4 5 (fun w' => w'.cell? ⟨g11, 0, none⟩ = some (.bool false) ∧ w'.cell? ⟨g11, 1, none⟩ = some (.slice A9 (digs HW).length c9) ∧ w'.cell? ⟨g11, 2, none⟩ = some (.slice (some ⟨w9.heap.size, 0, none⟩) 1 1)) rfl (by kernel_rfl) (by kernel_rfl) (by repeat (first | refine quiet_then ?_ | refine quiet_block ?_ | exact quiet_body)) ⟨(s11).cell 0, (s11).cell 1, (s11).cell 2⟩ (fun Q hQK hq' hns hHeld => ?_)
        generalize wc.drew = w50 at *
        refine AnyU.next (i := 0) (v := ?_) hq' hns hHeld rfl rfl (by kernel_rfl) (Or.inl ⟨by rfl, ?_⟩) ?_
        rotate_left
        · intro w' hSw; (try dsimp only at hSw); go_simp <;> with_reducible rfl
        try simp only [List.setIfInBounds_toArray, List.set_cons_zero, List.set_cons_succ]
        refine AnyU.next (i := 2) (v := ?_) hq' hns hHeld rfl rfl (by kernel_rfl) (Or.inl ⟨by rfl, ?_⟩) ?_
        rotate_left
        · intro w' hSw; (try dsimp only at hSw); go_simp <;> with_reducible rfl
        try simp only [List.setIfInBounds_toArray, List.set_cons_zero, List.set_cons_succ]
        refine AnyU.one 1 (by kernel_rfl) rfl (fun K hK => ?_)
        go_simp
        refine (hM _).mono ?_; rintro e w51 ⟨rfl, BX⟩
        go_wp2_with fail
        have s11 := s11.nx BX
        have s12 := s12.nx BX
        have s13 := s13.nx BX
        have BB := bt BB BX
        clear BX hM
        refine hK.out _ _ (.inr ⟨(s11).cell 0, (s11).cell 1, (s11).cell 2⟩) (fun hHeld => ?_)
        have hHeld := hHeld.resolve_left (by decide)
        clear hK K
        try simp only [List.setIfInBounds_toArray, List.set_cons_zero, List.set_cons_succ]
        have i0 := s12.cell 0
        have i1 := s12.cell 1
        have i2 := s12.cell 2
        have f0 := s12.frozen 0
        have f1 := s12.frozen 1
        have f2 := s12.frozen 2
        refine AnyU.one 3 (by kernel_rfl) rfl (fun K hK => ?_)
        go_simp
        have s11 := s11.wr3 (r := g12) (by omega) (.bool true) (.slice A9 (digs HW).length c9) (.slice (some ⟨w9.heap.size, 0, none⟩) 1 1)
        refine hK.out _ _ (.inr ⟨(s11).cell 0, (s11).cell 1, (s11).cell 2⟩) (fun hHeld => ?_)
        clear hK K hHeld s11
        try simp only [List.setIfInBounds_toArray, List.set_cons_zero, List.set_cons_succ]
        clear i0 i1 i2 f0 f1 f2
        have s13 := s13.wr3 (r := g12) (Ne.symm hne) (.bool true) (.slice A9 (digs HW).length c9) (.slice (some ⟨w9.heap.size, 0, none⟩) 1 1)
        have s12 := s12.put3 (.bool true) (.slice A9 (digs HW).length c9) (.slice (some ⟨w9.heap.size, 0, none⟩) 1 1)
        have BB := wr3_below (b := g12) BB hg12 (.bool true) (.slice A9 (digs HW).length c9) (.slice (some ⟨w9.heap.size, 0, none⟩) 1 1)
        obtain ⟨Wa, hWa⟩ : ∃ Wa, (((w51.setCell ⟨g12, 0, none⟩ (.bool true)).setCell ⟨g12, 1, none⟩ (.slice A9 (digs HW).length c9)).setCell ⟨g12, 2, none⟩ (.slice (some ⟨w9.heap.size, 0, none⟩) 1 1)) = Wa := ⟨_, rfl⟩
        rw [hWa]
        unfold wr3 at s12 s13 BB
        rw [hWa] at s12 s13 BB
        clear hWa
        have i0 := s13.cell 0
        have i1 := s13.cell 1
        have i2 := s13.cell 2
        have f0 := s13.frozen 0
        have f1 := s13.frozen 1
        have f2 := s13.frozen 2
        refine AnyU.one 4 (by kernel_rfl) rfl (fun K hK => ?_)
        go_simp
        refine hK.out _ _ (.inl rfl) (fun _ => ?_)
        clear hK K
        try simp only [List.setIfInBounds_toArray, List.set_cons_zero, List.set_cons_succ]
        clear i0 i1 i2 f0 f1 f2
        refine AnyU.done (by kernel_rfl) (hQK.out _ _ ?_)
        go_wp2_with fail
        go_meet
        have s12 := s12.wr3 (r := g13) hne (.bool false) (.slice A9 (digs HW).length c9) (.slice (some ⟨w9.heap.size, 0, none⟩) 1 1)
        have s13 := s13.put3 (.bool false) (.slice A9 (digs HW).length c9) (.slice (some ⟨w9.heap.size, 0, none⟩) 1 1)
        have BB := wr3_below (b := g13) BB hg13 (.bool false) (.slice A9 (digs HW).length c9) (.slice (some ⟨w9.heap.size, 0, none⟩) 1 1)
        exact ⟨_, _, _, _, _, _, s12, s13, rq_neg hH0 (st RH1 BB) (st RH2 BB), rq_pos (st RH1 BB) (st RH2 BB), BB⟩
    case rest =>
      clear s11 s12 s13 OZ1 BB hH0 hdH hL hU
      obtain ⟨l0, l1, l2, u0, u1, u2, s12, s13, RL, RU, BB⟩ := hcut
      have S4 := S4.nx BB
      have S10 := S10.nx BB
      have QF := QF.st BB
      have C10 := bt C10 BB
      have hx : RQ w w.heap.size (.agg #[.bool (qn x), .slice A1 (digs (qt x)).length c1, .slice D1 (digs (qd x)).length d1]) x := ⟨A1, c1, D1, d1, rfl, p1, p2⟩
      have hO1 := fun V U w' h1 h2 => rratOrder_any V U x L_ w' h1 h2 b1
      have hO2 := fun V U w' h1 h2 => rratOrder_any V U x U_ w' h1 h2 b2
      have hSm := fun V U w' h1 h2 => rsum_any V U x ((PW : Int) : Rat) w' h1 h2 b3
      generalize cmpQ x L_ = z1 at *
      generalize cmpQ x U_ = z2 at *
      clear b1 b2 b3 BB S11 QH RH1 RH2
      have i0 := S4.cell 0
      have i1 := S4.cell 1
      have i2 := S4.cell 2
      have j0 := s12.cell 0
      have j1 := s12.cell 1
      have j2 := s12.cell 2
      go_wp2_with fail
      refine (hO1 _ _ _ (hx.st C10) RL).mono ?_; rintro e w40 ⟨rfl, B40⟩
      clear i0 i1 i2 j0 j1 j2 hO1 RL s12
      have S4 := S4.nx B40
      have S10 := S10.nx B40
      have QF := QF.st B40
      have C10 := bt C10 B40
      have s13 := s13.nx B40
      have RU := RU.st B40
      by_cases hz1 : z1 < 0
      · have hA := ha1 (.inl hz1)
        subst hA
        clear ha1 ha2 hu
        go_wp2_with fail
        go_ret2
        exact retBE_nil 4 C10
      have i0 := S4.cell 0
      have i1 := S4.cell 1
      have i2 := S4.cell 2
      have j0 := s13.cell 0
      have j1 := s13.cell 1
      have j2 := s13.cell 2
      go_wp2_with fail
      refine (hO2 _ _ _ (hx.st C10) RU).mono ?_; rintro e w41 ⟨rfl, B41⟩
      clear i0 i1 i2 j0 j1 j2 hO2 RU s13
      have S4 := S4.nx B41
      have S10 := S10.nx B41
      have QF := QF.st B41
      have C10 := bt C10 B41
      by_cases hz2 : 0 ≤ z2
      · have hA := ha1 (.inr hz2)
        subst hA
        clear ha1 ha2 hu
        go_wp2_with fail
        go_ret2
        exact retBE_nil 4 C10
      have hA := ha2 (by omega) (by omega)
      have hu := hu (by omega) (by omega)
      subst hA
      clear ha1 ha2
      have i0 := S4.cell 0
      have i1 := S4.cell 1
      have i2 := S4.cell 2
      have BL := bal w41 (.cells #[.bool (qn x), .slice A1 (digs (qt x)).length c1, .slice D1 (digs (qd x)).length d1] 25)
      have s14 := SB.new w41 [.bool (qn x), .slice A1 (digs (qt x)).length c1, .slice D1 (digs (qd x)).length d1] 25
      have hg14 := S10.2
      have S10 := S10.nx BL
      have QF := QF.st BL
      have C14 := bt C10 BL
      have m0 := s14.cell 0
      go_upto_if 61 with fail
      go_cut [] (fun wx => ∃ (sg : Bool) (Au : Option Addr) (cu : Nat) (Du : Option Addr) (nu du : Nat), SB wx w41.heap.size [.bool sg, .slice Au (digs u).length cu, .slice Du nu du] ∧ RW wx wx.heap.size Au cu (digs u) ∧ Below w41.heap.size w41 wx)
      case first =>
        clear m0
        generalize hq : qn x = bq at *
        cases bq with
        | false =>
          have hu' : qt x = u := by rw [if_neg (by simp)] at hu; exact hu
          clear hu hq
          subst hu'
          go_wp2_with fail
          go_meet
          exact ⟨_, _, _, _, _, _, s14, st (st p1 C10) BL, BL⟩
        | true =>
          have hu' : qt (x + ((PW : Int) : Rat)) = u := by rw [if_pos rfl] at hu; exact hu
          clear hu
          skip
          have m0 := s14.cell 0
          have m1 := s14.cell 1
          have m2 := s14.cell 2
          have n0 := S10.cell 0
          have n1 := S10.cell 1
          have n2 := S10.cell 2
          go_wp2_with fail
          refine (hSm _ _ _ ((hx.st C10).st BL) QF).mono ?_; rintro e w42 ⟨A17, c17, M17, m17, rfl, O17, P17, B42⟩
          clear m0 m1 m2 n0 n1 n2
          have hgl := s14.2
          have s14 := s14.nx B42
          have BZ := bt BL B42
          have m0 := s14.cell 0
          have m1 := s14.cell 1
          have m2 := s14.cell 2
          have f0 := s14.frozen 0
          have f1 := s14.frozen 1
          have f2 := s14.frozen 2
          go_wp2_with fail
          go_meet
          have s14 := s14.put3 (.bool (qn (x + ((PW : Int) : Rat)))) (.slice A17 (digs (qt (x + ((PW : Int) : Rat)))).length c17) (.slice M17 (digs (qd (x + ((PW : Int) : Rat)))).length m17)
          have O17 := (O17.put3 (b := w41.heap.size) hgl (.bool (qn (x + ((PW : Int) : Rat)))) (.slice A17 (digs (qt (x + ((PW : Int) : Rat)))).length c17) (.slice M17 (digs (qd (x + ((PW : Int) : Rat)))).length m17)).rw
          have BZ := wr3_below (b := w41.heap.size) BZ (Nat.le_refl _) (.bool (qn (x + ((PW : Int) : Rat)))) (.slice A17 (digs (qt (x + ((PW : Int) : Rat)))).length c17) (.slice M17 (digs (qd (x + ((PW : Int) : Rat)))).length m17)
          rw [hu'] at s14 O17 BZ
          exact ⟨_, _, _, _, _, _, s14, O17, BZ⟩
      case rest =>
        clear s14 C14 BL S10 QF m0 hg14 hu hSm
        obtain ⟨sg, Au, cu, Du, nu, du, s14, Ru, BR⟩ := hcut
        have CR := bt C10 BR
        cases big with
        | true =>
          go_wp2_with (at_make; refine wp_makeB _ rfl _ _ rfl .i64 .i64 _ _ s rfl rfl (by omega) (by omega) (by omega) ?_; intro wm hOm hbm hsm; have s14 := s14.nx hbm; have m0 := s14.cell 0; have m1 := s14.cell 1; have m2 := s14.cell 2)
          go_loopg [16, 17] s (fun gg lv iv wr => ∃ (k : Nat) (A5 : Option Addr) (c5 : Nat), k ≤ s ∧ s - k = gg ∧ iv = .int .i64 (k : Int) ∧ lv = .slice A5 (digs (dv u k)).length c5 ∧ RW wr wr.heap.size A5 c5 (digs (dv u k)) ∧ OB wr wc.heap.size (some ⟨wc.heap.size, 0, none⟩) s (outT s true u k) ∧ Below wc.heap.size wc wr)
          case atStart => exact ⟨0, Au, cu, Nat.zero_le _, rfl, rfl, by rw [dv_zero], by rw [dv_zero]; exact st Ru hbm, by rw [outT_zero]; exact hOm, hbm⟩
          case round =>
            clear hOm hbm hsm s14 Ru
            obtain ⟨k, A5, c5, hk, rfl, rfl, rfl, R5, hO, hbel⟩ := hrel
            by_cases hk0 : k < s
            · obtain ⟨j, hj⟩ : ∃ j, j = s - 1 - k := ⟨_, rfl⟩
              have hj1 : (s : Int) - 1 - (k : Int) = (j : Int) := by omega
              have hj2 : (j : Int) < (s : Int) := by omega
              have hk2 : (k : Int) < (s : Int) := by omega
              have hl5 : (digs (dv u k)).length ≤ 1000 := Nat.le_trans (digs_mono (dv_le u k)) hub
              have hV := rover_any A5 (some ⟨wr.heap.size, 0, none⟩) c5 1 _ 1 (digs (dv u k)) [256] (wr.alloc (.cells #[.int .u32 (256 : Nat)] 53)) rfl rfl (st R5 (bal _ _)) ((RW.one wr 53 (show 256 < 4294967296 by omega)).more (by simp)) Nrm_256 (by rw [val_one]; omega) (by omega) (by simp)
              rw [val_digs, val_one, dv_succ] at hV
              have hB := dv_byte u k
              have hset := outT_big (u := u) hk0 hj
              have hglt := (OM.lt hO).2
              have Bo := bal wr (.cells #[.int .u32 (256 : Nat)] 53)
              have hml : dv u k % 256 < 256 := Nat.mod_lt _ (by omega)
              obtain ⟨m, hm⟩ : ∃ m, dv u k % 256 = m := ⟨_, rfl⟩
              rw [hm] at hV hB hml
              have HS := Lib.hid hset
              have HB := Lib.hid hB
              clear hm hset hB hj hl5
              by_cases hm0 : m = 0
              · subst hm0
                go_wp2_with fail
                refine hV.mono ?_; rintro e w60 ⟨A6, c6, A7, c7, rfl, O6, O7, B60⟩
                rw [digs_zero] at O7 ⊢
                clear hV
                have hO2 := OM.below hO (bt Bo B60) (Nat.le_refl _)
                have hfz := OM.frozen hO2 j
                have hct := OM.cell hO2 (bg_get? (l := outT s true u k) (k := j) (by rw [outT_len]; omega))
                simp only [f8] at hct
                go_wp2_with fail
                go_roundg (s - (k + 1))
                case measure => omega
                case rel =>
                  have hst := OM.set hO2 j (byteN u k)
                  rw [HS.out] at hst
                  simp only [f8, HB.out] at hst
                  exact ⟨k + 1, A6, c6, by omega, rfl, by go_num, rfl, (O6.far (p := ⟨wc.heap.size, j, none⟩) (fun b hb => by subst hb; have h1 := O6.lt.1; have h2 := Bo.size; show b ≠ wc.heap.size; omega) (.int .u8 0)).rw, hst, (bt hbel (bt Bo B60)).setCell (p := ⟨wc.heap.size, j, none⟩) (Nat.le_refl _) (.int .u8 0)⟩
              · go_wp2_with fail
                refine hV.mono ?_; rintro e w60 ⟨A6, c6, A7, c7, rfl, O6, O7, B60⟩
                rw [digs_one (n := m) (by omega) (by omega)] at O7 ⊢
                clear hV
                obtain ⟨b9, o9, rfl, _, hx9⟩ := (O7.rw).at_ (by simp)
                have x9 := hx9 0 (by simp)
                rw [Nat.add_zero, show wd [m] 0 = m from rfl] at x9
                clear hx9
                have ew : ((m : Int)) % 256 = (m : Int) := by omega
                have hO2 := OM.below hO (bt Bo B60) (Nat.le_refl _)
                have hfz := OM.frozen hO2 j
                have hct := OM.cell hO2 (bg_get? (l := outT s true u k) (k := j) (by rw [outT_len]; omega))
                simp only [f8] at hct
                go_wp2_with fail
                go_roundg (s - (k + 1))
                case measure => omega
                case rel =>
                  have hst := OM.set hO2 j (byteN u k)
                  rw [HS.out] at hst
                  simp only [f8, HB.out] at hst
                  exact ⟨k + 1, A6, c6, by omega, rfl, by go_num, rfl, (O6.far (p := ⟨wc.heap.size, j, none⟩) (fun b hb => by subst hb; have h1 := O6.lt.1; have h2 := Bo.size; show b ≠ wc.heap.size; omega) (.int .u8 (m : Int))).rw, hst, (bt hbel (bt Bo B60)).setCell (p := ⟨wc.heap.size, j, none⟩) (Nat.le_refl _) (.int .u8 (m : Int))⟩
            · obtain rfl : k = s := by omega
              rw [outT_all] at hO
              clear hk0 R5
              go_wp2_with fail
              go_ret2
              exact ⟨_, _, by rw [outB_len]; rfl, OM.base_le hO CR.size, CR.trans (hbel.mono CR.size)⟩
        | false =>
          go_wp2_with (at_make; refine wp_makeB _ rfl _ _ rfl .i64 .i64 _ _ s rfl rfl (by omega) (by omega) (by omega) ?_; intro wm hOm hbm hsm; have s14 := s14.nx hbm; have m0 := s14.cell 0; have m1 := s14.cell 1; have m2 := s14.cell 2)
          go_loopg [16, 17] s (fun gg lv iv wr => ∃ (k : Nat) (A5 : Option Addr) (c5 : Nat), k ≤ s ∧ s - k = gg ∧ iv = .int .i64 (k : Int) ∧ lv = .slice A5 (digs (dv u k)).length c5 ∧ RW wr wr.heap.size A5 c5 (digs (dv u k)) ∧ OB wr wc.heap.size (some ⟨wc.heap.size, 0, none⟩) s (outT s false u k) ∧ Below wc.heap.size wc wr)
          case atStart => exact ⟨0, Au, cu, Nat.zero_le _, rfl, rfl, by rw [dv_zero], by rw [dv_zero]; exact st Ru hbm, by rw [outT_zero]; exact hOm, hbm⟩
          case round =>
            clear hOm hbm hsm s14 Ru
            obtain ⟨k, A5, c5, hk, rfl, rfl, rfl, R5, hO, hbel⟩ := hrel
            by_cases hk0 : k < s
            · obtain ⟨j, hj⟩ : ∃ j, j = s - 1 - k := ⟨_, rfl⟩
              have hj1 : (s : Int) - 1 - (k : Int) = (j : Int) := by omega
              have hj2 : (j : Int) < (s : Int) := by omega
              have hk2 : (k : Int) < (s : Int) := by omega
              have hl5 : (digs (dv u k)).length ≤ 1000 := Nat.le_trans (digs_mono (dv_le u k)) hub
              have hV := rover_any A5 (some ⟨wr.heap.size, 0, none⟩) c5 1 _ 1 (digs (dv u k)) [256] (wr.alloc (.cells #[.int .u32 (256 : Nat)] 53)) rfl rfl (st R5 (bal _ _)) ((RW.one wr 53 (show 256 < 4294967296 by omega)).more (by simp)) Nrm_256 (by rw [val_one]; omega) (by omega) (by simp)
              rw [val_digs, val_one, dv_succ] at hV
              have hB := dv_byte u k
              have hset := outT_little (u := u) hk0
              have hglt := (OM.lt hO).2
              have Bo := bal wr (.cells #[.int .u32 (256 : Nat)] 53)
              have hml : dv u k % 256 < 256 := Nat.mod_lt _ (by omega)
              obtain ⟨m, hm⟩ : ∃ m, dv u k % 256 = m := ⟨_, rfl⟩
              rw [hm] at hV hB hml
              have HS := Lib.hid hset
              have HB := Lib.hid hB
              clear hm hset hB hj hl5
              by_cases hm0 : m = 0
              · subst hm0
                go_wp2_with fail
                refine hV.mono ?_; rintro e w60 ⟨A6, c6, A7, c7, rfl, O6, O7, B60⟩
                rw [digs_zero] at O7 ⊢
                clear hV
                have hO2 := OM.below hO (bt Bo B60) (Nat.le_refl _)
                have hfz := OM.frozen hO2 k
                have hct := OM.cell hO2 (bg_get? (l := outT s false u k) (k := k) (by rw [outT_len]; omega))
                simp only [f8] at hct
                go_wp2_with fail
                go_roundg (s - (k + 1))
                case measure => omega
                case rel =>
                  have hst := OM.set hO2 k (byteN u k)
                  rw [HS.out] at hst
                  simp only [f8, HB.out] at hst
                  exact ⟨k + 1, A6, c6, by omega, rfl, by go_num, rfl, (O6.far (p := ⟨wc.heap.size, k, none⟩) (fun b hb => by subst hb; have h1 := O6.lt.1; have h2 := Bo.size; show b ≠ wc.heap.size; omega) (.int .u8 0)).rw, hst, (bt hbel (bt Bo B60)).setCell (p := ⟨wc.heap.size, k, none⟩) (Nat.le_refl _) (.int .u8 0)⟩
              · go_wp2_with fail
                refine hV.mono ?_; rintro e w60 ⟨A6, c6, A7, c7, rfl, O6, O7, B60⟩
                rw [digs_one (n := m) (by omega) (by omega)] at O7 ⊢
                clear hV
                obtain ⟨b9, o9, rfl, _, hx9⟩ := (O7.rw).at_ (by simp)
                have x9 := hx9 0 (by simp)
                rw [Nat.add_zero, show wd [m] 0 = m from rfl] at x9
                clear hx9
                have ew : ((m : Int)) % 256 = (m : Int) := by omega
                have hO2 := OM.below hO (bt Bo B60) (Nat.le_refl _)
                have hfz := OM.frozen hO2 k
                have hct := OM.cell hO2 (bg_get? (l := outT s false u k) (k := k) (by rw [outT_len]; omega))
                simp only [f8] at hct
                go_wp2_with fail
                go_roundg (s - (k + 1))
                case measure => omega
                case rel =>
                  have hst := OM.set hO2 k (byteN u k)
                  rw [HS.out] at hst
                  simp only [f8, HB.out] at hst
                  exact ⟨k + 1, A6, c6, by omega, rfl, by go_num, rfl, (O6.far (p := ⟨wc.heap.size, k, none⟩) (fun b hb => by subst hb; have h1 := O6.lt.1; have h2 := Bo.size; show b ≠ wc.heap.size; omega) (.int .u8 (m : Int))).rw, hst, (bt hbel (bt Bo B60)).setCell (p := ⟨wc.heap.size, k, none⟩) (Nat.le_refl _) (.int .u8 (m : Int))⟩
            · obtain rfl : k = s := by omega
              rw [outT_all] at hO
              clear hk0 R5
              go_wp2_with fail
              go_ret2
              exact ⟨_, _, by rw [outB_len]; rfl, OM.base_le hO CR.size, CR.trans (hbel.mono CR.size)⟩

end Go.Proofs.Ytabcnpcfknlmlaa
namespace Go.Proofs.Ytabcnpcfknlmlaa
open Go.RowKit

theorem cmpQ_int (a b : Int) : cmpQ (a : Rat) (b : Rat) < 0 ↔ a < b := by
  unfold cmpQ
  rw [show (a : Rat) + -(b : Rat) = ((a - b : Int) : Rat) by rw [Rat.intCast_sub, Rat.sub_eq_add_neg], qn_int]
  by_cases h : a < b
  · rw [decide_eq_true (show a - b < 0 by omega), if_pos rfl]
    exact ⟨fun _ => h, fun _ => by decide⟩
  · rw [decide_eq_false (show ¬ a - b < 0 by omega), if_neg (by simp)]
    refine ⟨fun h2 => ?_, fun h2 => absurd h2 h⟩
    split at h2 <;> omega
theorem cmpQ_zero (a : Int) : cmpQ (a : Rat) 0 < 0 ↔ a < 0 := cmpQ_int a 0
theorem rat_int {q : Rat} (h : qd q = 1) : q = ((q.num : Int) : Rat) := Rat.ext rfl h
theorem okS_iff {s PW HW : Nat} {signed : Bool} {X : Int} (hP : 256 ^ s = PW) (hH : PW = 2 * HW) : okS s signed (decide (X < 0)) X.natAbs = true ↔ (if signed = true then -(HW : Int) ≤ X ∧ X < (HW : Int) else 0 ≤ X ∧ X < (PW : Int)) := by
  unfold okS
  rw [hP]
  by_cases h0 : X < 0
  · rw [decide_eq_true h0, if_pos rfl]
    cases signed
    · simp; omega
    · simp; omega
  · rw [decide_eq_false h0, if_neg (by simp)]
    cases signed
    · simp; omega
    · simp; omega

theorem rone_any (s : Nat) (big signed : Bool) (V : Value) (r i : Rw) (w : World) (h1 : 1 ≤ s) (h64 : s ≤ 64) (hV : VN w w.heap.size V r i) :
    Calls Try.prog 41 #[.int .i64 (s : Int), .bool big, .bool signed, V] w (RetBE w (oneA s big signed r i)) := by
  unfold oneA
  by_cases h : nB r i = true
  · rw [if_pos h]
    by_cases hw : wB r i = true
    · rw [if_pos hw]
      obtain ⟨x, y, rfl, rfl, bx, _⟩ := nB_rat h
      obtain ⟨g1, g2, g3, _, _⟩ := wB_int hw
      have hy : y = 0 := by
        have hh : digs (qt y) = [] := by
          have : (rwq y).a = [] := by rw [g3]
          exact this
        exact qt_zero.1 (by rw [← val_digs (qt y), hh]; rfl)
      subst hy
      have hd : qd x = 1 := by
        have : digs (qd x) = [1] := g2
        rw [← val_digs (qd x), this, val_one]
      have hX := rat_int hd
      generalize x.num = X at hX
      subst hX
      clear g1 g2 g3 hd
      rw [show (rwq ((X : Int) : Rat)).s = decide (X < 0) from rfl, show val (rwq ((X : Int) : Rat)).a = X.natAbs from val_digs _]
      obtain ⟨PW, hP⟩ : ∃ PW, 256 ^ s = PW := ⟨_, rfl⟩
      obtain ⟨HW, hH⟩ : ∃ HW, 2 ^ (8 * s - 1) = HW := ⟨_, rfl⟩
      have hPH : PW = 2 * HW := by
        rw [← hP, ← hH, pow8, ← Nat.pow_succ']
        congr 1
        omega
      have hP17 : PW < Wp 17 := by rw [← hP]; exact pow_wm (by omega)
      have hok := fun sg => okS_iff (s := s) (signed := sg) (X := X) hP hPH
      have q1 := qw_int (PW : Int) 17 (by omega) (by rw [Int.natAbs_natCast]; exact hP17)
      have q2 := qw_int (HW : Int) 17 (by omega) (by rw [Int.natAbs_natCast]; omega)
      have q3 := qw_int (-(HW : Int)) 17 (by omega) (by rw [Int.natAbs_neg, Int.natAbs_natCast]; omega)
      have q0 : qw (0 : Rat) ≤ 512 := qw_small 0 (by decide)
      refine rone_main s big signed V ((X : Int) : Rat) w h1 h64 hV bx h hw PW HW (Lib.hid (by rw [← pow8]; exact hP)) (Lib.hid hH) _ _ rfl rfl (uS s (decide (X < 0)) X.natAbs) ?_ ?_ ?_ (by omega) ?_ _ ?_ ?_
      · unfold uS
        split
        · have := digs_mono (a := 256 ^ s - X.natAbs) (b := PW) (by omega)
          have := digs_len_le.2 hP17
          omega
        · have := qw_t ((X : Int) : Rat)
          rw [qt_int] at this
          omega
      · cases signed
        · show qw _ + qw (0 : Rat) ≤ 14000
          omega
        · show qw _ + qw ((-(HW : Int) : Int) : Rat) ≤ 14000
          omega
      · cases signed
        · show qw _ + qw ((PW : Int) : Rat) ≤ 14000
          omega
        · show qw _ + qw ((HW : Int) : Rat) ≤ 14000
          omega
      · intro z1 z2
        have hin : -(PW : Int) ≤ X := by
          cases signed with
          | false =>
            have := (not_congr (cmpQ_zero X)).1 z1
            omega
          | true =>
            have := (not_congr (cmpQ_int X (-(HW : Int)))).1 z1
            omega
        unfold uS
        rw [hP, qn_int]
        by_cases h0 : X < 0
        · rw [decide_eq_true h0, if_pos rfl, if_pos rfl, ← Rat.intCast_add, qt_int]
          omega
        · rw [decide_eq_false h0, if_neg (by simp), if_neg (by simp), qt_int]
      · intro hz
        rw [if_neg]
        intro hk
        rw [hok] at hk
        cases signed with
        | false =>
          rw [if_neg (by simp)] at hk
          rcases hz with hz | hz
          · have := (cmpQ_zero X).1 hz
            omega
          · have := (not_congr (cmpQ_int X (PW : Int))).1 (by have hz' : 0 ≤ cmpQ (X : Rat) ((PW : Int) : Rat) := hz; omega)
            omega
        | true =>
          rw [if_pos rfl] at hk
          rcases hz with hz | hz
          · have := (cmpQ_int X (-(HW : Int))).1 hz
            omega
          · have := (not_congr (cmpQ_int X (HW : Int))).1 (by have hz' : 0 ≤ cmpQ (X : Rat) ((HW : Int) : Rat) := hz; omega)
            omega
      · intro z1 z2
        rw [if_pos]
        rw [hok]
        cases signed with
        | false =>
          rw [if_neg (by simp)]
          have e1 := (not_congr (cmpQ_zero X)).1 z1
          have e2 := (cmpQ_int X (PW : Int)).1 (by have hz' : ¬ 0 ≤ cmpQ (X : Rat) ((PW : Int) : Rat) := z2; omega)
          omega
        | true =>
          rw [if_pos rfl]
          have e1 := (not_congr (cmpQ_int X (-(HW : Int)))).1 z1
          have e2 := (cmpQ_int X (HW : Int)).1 (by have hz' : ¬ 0 ≤ cmpQ (X : Rat) ((HW : Int) : Rat) := z2; omega)
          omega
    · rw [if_neg hw]
      exact rone_type s big signed V r i w hV h hw
  · rw [if_neg h]
    exact rone_bad s big signed V r i w hV h
end Go.Proofs.Ytabcnpcfknlmlaa
namespace Go.Proofs.Ytabcnpcfknlmlaa
open Go.RowKit

theorem sameb_step {a b : List UInt8} {j : Nat} (hj : j < a.length) (hl : a.length = b.length) (hd : a.take j = b.take j) (h : bg a j = bg b j) : a.take (j + 1) = b.take (j + 1) := by
  rw [take_bg hj, take_bg (by omega : j < b.length), hd, h]

set_option maxHeartbeats 1000000 in
theorem rsameB_any (A D : Option Addr) (c d n m : Nat) (a b : List UInt8) (w : World) (hn : n = a.length) (hm : m = b.length) (ha : RB w w.heap.size A c a) (hb : RB w w.heap.size D d b) :
    Calls Try.prog 14 #[.slice A n c, .slice D m d] w fun e w' => e = .returned (.bool (decide (a = b))) ∧ ∃ q, w' = w.drewN q := by
  subst hn hm
  have hba := ha.big
  have hbb := hb.big
  by_cases hlen : a.length = b.length
  · have hl1 : ((a.length : Int) != (b.length : Int)) = false := by simp; omega
    have HL := Lib.hid hlen
    have hlt : ¬ a.length < b.length := by omega
    have hgt : ¬ b.length < a.length := by omega
    clear hlen
    go_enter Try.func14, Try.ntmps14
    go_wp2
    go_loopw [5] (fun i wr => ∃ k : Nat, k ≤ a.length ∧ i = .int .i64 (k : Int) ∧ Hid (a.take k = b.take k) ∧ ∃ q, wr = w.drewN q) (fun i _ => (a.length - intOf i).toNat)
    case atStart => exact ⟨0, Nat.zero_le _, rfl, rfl, 0, rfl⟩
    case round =>
      obtain ⟨k, hk, rfl, hk2, q, rfl⟩ := hrel
      by_cases h0 : k < a.length
      · obtain ⟨b1, o1, rfl, _, hx⟩ := ha.at_ (by omega)
        obtain ⟨b2, o2, rfl, _, hy⟩ := hb.at_ (by omega)
        have hxk := hx k _ (bg_get? (by omega))
        have hyk := hy k _ (bg_get? (by omega))
        simp only [f8] at hxk hyk
        clear ha hb hx hy
        by_cases h1 : bg a k = bg b k
        · have t1 : (((bg a k).toNat : Int) != ((bg b k).toNat : Int)) = false := by rw [h1]; simp
          have HR := Lib.hid (sameb_step h0 HL.out hk2.out h1)
          clear h1
          go_wp2
          go_quiet (fail)
          go_wp2
          go_roundw
          case rel => exact ⟨k + 1, by omega, by go_num, HR, _, rfl⟩
          case measure => simp [intOf]; omega
        · have h2 : (bg a k).toNat ≠ (bg b k).toNat := fun e => h1 (UInt8.toNat_inj.1 e)
          have t1 : (((bg a k).toNat : Int) != ((bg b k).toNat : Int)) = true := by simp; omega
          have H1 := Lib.hid h1
          clear h1 h2
          go_wp2
          go_quiet (fail)
          go_wp2
          go_ret
          refine ⟨ret_bool ?_, drw _ _⟩
          rw [decide_eq_false (fun e => H1.out (by rw [e]))]
      · obtain rfl : k = a.length := by omega
        go_wp2
        go_ret
        refine ⟨?_, q, rfl⟩
        have h2 := hk2.out
        rw [List.take_length, HL.out, List.take_length] at h2
        exact ret_bool (by rw [decide_eq_true h2])
  · have hl1 : ((a.length : Int) != (b.length : Int)) = true := by simp; omega
    go_enter Try.func14, Try.ntmps14
    go_wp2
    go_ret
    exact ⟨ret_bool (by rw [decide_eq_false (fun e => hlen (by rw [e]))]), 0, rfl⟩


set_option maxRecDepth 100000 in
set_option maxHeartbeats 8000000 in
theorem rput_any (A : Option Addr) (c n : Nat) (l : List UInt8) (at_ size : Int) (big signed : Bool) (V : Value) (r i : Rw) (w : World) (hn : n = l.length) (h : RB w w.heap.size A c l) (hV : VN w w.heap.size V r i)
    (a0 : -9223372036854775808 ≤ at_) (a1' : at_ ≤ 9223372036854775807) (s0 : -9223372036854775808 ≤ size) (s1' : size ≤ 9223372036854775807) :
    Calls Try.prog 13 #[.slice A n c, .int .i64 at_, .int .i64 size, .bool big, .bool signed, V] w (RetBE w (putA l at_ size big signed r i)) := by
  subst hn
  have hbig := h.big
  obtain ⟨A1, c1, D1, d1, A2, c2, D2, d2, rfl, p1, p2, p3, p4⟩ := hV
  have Ha : VN w w.heap.size (.agg #[.bool r.s, .slice A1 r.a.length c1, .slice D1 r.b.length d1, .bool i.s, .slice A2 i.a.length c2, .slice D2 i.b.length d2]) r i := ⟨A1, c1, D1, d1, A2, c2, D2, d2, rfl, p1, p2, p3, p4⟩
  have B1 := bal w (.cells #[.bool r.s, .slice A1 r.a.length c1, .slice D1 r.b.length d1, .bool i.s, .slice A2 i.a.length c2, .slice D2 i.b.length d2] 27)
  have S1 := SB.new w [.bool r.s, .slice A1 r.a.length c1, .slice D1 r.b.length d1, .bool i.s, .slice A2 i.a.length c2, .slice D2 i.b.length d2] 27
  have hin := fun w' => rin_any l.length at_ size w' hbig a0 a1' s0 s1'
  clear p1 p2 p3 p4
  unfold putA
  cases hi : inB l.length at_ size with
  | false =>
    rw [hi] at hin
    rw [if_neg (by simp)]
    clear hi
    go_enter Try.func13, Try.ntmps13
    go_wp2_with fail
    refine (hin _).mono ?_; rintro e w' ⟨rfl, rfl⟩
    go_wp2_with fail
    go_ret2
    exact retBE_nil 1 B1
  | true =>
    rw [hi] at hin
    unfold inB at hi
    rw [decide_eq_true_eq] at hi
    obtain ⟨a, rfl⟩ := Int.eq_ofNat_of_zero_le hi.2.2.1
    obtain ⟨s, rfl⟩ := Int.eq_ofNat_of_zero_le (show 0 ≤ size by omega)
    obtain ⟨i1, i2, _, i4⟩ := hi
    rw [Int.toNat_natCast, Int.toNat_natCast, if_pos rfl]
    have hsl : a + s ≤ l.length := by omega
    have hs1 : 1 ≤ s := by omega
    have hs64 : s ≤ 64 := by omega
    clear i1 i2 i4
    have hone := fun V w' h => rone_any s big signed V r i w' hs1 hs64 h
    have hol := oneA_len (s := s) (big := big) (signed := signed) (r := r) (i := i)
    generalize oneA s big signed r i = x at *
    obtain ⟨cb, k⟩ := x
    dsimp only at hol ⊢
    have m0 := S1.cell 0
    have m1 := S1.cell 1
    have m2 := S1.cell 2
    have m3 := S1.cell 3
    have m4 := S1.cell 4
    have m5 := S1.cell 5
    by_cases hk : k = 0
    · subst hk
      have hcl := hol rfl
      rw [if_pos rfl]
      have HCL := Lib.hid hcl
      obtain ⟨b', off', rfl, hlt, hx⟩ := RM.at_ h (by omega)
      have hT : RB w w.heap.size (some ⟨b', off', none⟩) c (l.take a) := RM.take h a
      have hD := RB_sub h (a + s) (l.length - (a + s)) (by omega)
      rw [show (l.drop (a + s)).take (l.length - (a + s)) = l.drop (a + s) from List.take_of_length_le (by rw [List.length_drop]; exact Nat.le_refl _)] at hD
      have hta : (l.take a).length = a := by rw [List.length_take]; omega
      have hdl : (l.drop (a + s)).length = l.length - (a + s) := List.length_drop
      have ew : IntKind.i64.wrap ((a : Int) + (s : Int)) = (a : Int) + (s : Int) := IntWalk.i64_in _ (by omega)
      have hlc := h.lc
      have hP : putL l cb a = l.take a ++ (cb ++ l.drop (a + s)) := by unfold putL; rw [hcl]
      rw [hP]
      generalize l.take a = LT at *
      generalize l.drop (a + s) = LD at *
      have hTl := Lib.hid hta
      have hDl := Lib.hid hdl
      clear hol hcl hx hP hta hdl
      go_enter Try.func13, Try.ntmps13
      go_wp2_with fail
      refine (hin _).mono ?_; rintro e w' ⟨rfl, rfl⟩
      go_wp2_with fail
      refine (hone _ _ (Ha.st B1)).mono ?_; rintro e w3 ⟨A3, c3, rfl, O3, B3⟩
      dsimp only at O3
      have C3 := bt B1 B3
      have hT3 := RM.step hT C3 C3.size
      have hD3 := RM.step hD C3 C3.size
      have Ba := bal w3 (.cells #[] 5)
      go_upto_region 7 with (at_builtin; refine wp_appB _ rfl _ _ rfl w3.heap.size _ _ _ [] rfl rfl (OB.empty w3) _ _ _ LT rfl hTl.out.symm _ (RM.step hT3 Ba Ba.size) (by rw [hTl.out]; simp; omega) (by simp) ?_; intro A6 c6 w6 O6 g6 B6)
      have C6 := Ba.trans B6
      go_upto_region 8 with (at_builtin; refine wp_appB _ rfl _ _ rfl w3.heap.size _ _ _ ([] ++ LT) rfl rfl O6 _ _ _ cb rfl rfl _ (RM.step (OM.rl O3) C6 C6.size) (by have := HCL.out; have := hTl.out; simp; omega) C6.size ?_; intro A7 c7 w7 O7 g7 B7)
      have C7 := C6.trans B7
      by_cases hck : c = a + s
      · have hL0 : LD = [] := List.eq_nil_of_length_eq_zero (by rw [hDl.out]; omega)
        go_wp2_with (at_builtin; refine wp_appB _ rfl _ _ rfl w3.heap.size _ _ _ ([] ++ LT ++ cb) rfl (by simp) O7 _ _ _ LD rfl hDl.out.symm w7.heap.size (by rw [hL0]; exact RM.nil _ _ _ _ _) (by have := HCL.out; have := hTl.out; have := hDl.out; simp; omega) C7.size ?_; intro A8 c8 w8 O8 g8 B8)
        go_ret2
        have C8 := C7.trans B8
        have e : [] ++ LT ++ cb ++ LD = LT ++ (cb ++ LD) := by simp
        rw [e] at O8
        exact ⟨A8, c8, by rw [show (LT ++ (cb ++ LD)).length = LT.length + cb.length by rw [hL0]; simp]; rfl, OM.base_le O8 C3.size, C3.trans (C8.mono C3.size)⟩
      · go_wp2_with (at_builtin; refine wp_appB _ rfl _ _ rfl w3.heap.size _ _ _ ([] ++ LT ++ cb) rfl (by simp) O7 _ _ _ LD rfl hDl.out.symm _ (RM.step hD3 C7 C7.size) (by have := HCL.out; have := hTl.out; have := hDl.out; simp; omega) C7.size ?_; intro A8 c8 w8 O8 g8 B8)
        go_ret2
        have C8 := C7.trans B8
        have e : [] ++ LT ++ cb ++ LD = LT ++ (cb ++ LD) := by simp
        rw [e] at O8
        exact ⟨A8, c8, by rw [show (LT ++ (cb ++ LD)).length = LT.length + (cb.length + LD.length) by simp]; rfl, OM.base_le O8 C3.size, C3.trans (C8.mono C3.size)⟩
    · have hkb : (k == 0) = false := beq_eq_false_iff_ne.2 hk
      rw [if_neg hk]
      clear hol hk
      go_enter Try.func13, Try.ntmps13
      go_wp2_with fail
      refine (hin _).mono ?_; rintro e w' ⟨rfl, rfl⟩
      go_wp2_with fail
      refine (hone _ _ (Ha.st B1)).mono ?_; rintro e w3 ⟨A3, c3, rfl, O3, B3⟩
      go_wp2_with fail
      go_ret2
      exact retBE_nil k (bt B1 B3)

end Go.Proofs.Ytabcnpcfknlmlaa
