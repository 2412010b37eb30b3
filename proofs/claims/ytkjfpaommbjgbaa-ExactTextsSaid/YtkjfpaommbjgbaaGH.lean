/- Merged texts: ExI. -/
import Derived.Test.YtkjfpaommbjgbaaGG
namespace Go.Proofs.Ytkjfpaommbjgbaa
open Go.RowKit

/-- a struct made within a region, put there: what is kept -/
theorem S2.wr {w w1 : World} {b n g : Nat} {l1 : List Value} (h : S2 w b l1 n w1) (hg : b + 1 < g) (x y z : Value) : S2 w b l1 n (Go.Proofs.Ytkjfpaommbjgbaa.wr3 w1 g x y z) :=
  ⟨h.1.wr3 (by omega) x y z, (h.2.1.sb.wr3 (by omega) x y z).rc (by simp), wr3_below h.2.2 (by omega) x y z⟩
theorem S2.re {w w1 : World} {b n : Nat} {l1 : List Value} {o o' : Obj} (h : S2 w b l1 n (w1.alloc o)) (hg : b + 1 < w1.heap.size) : S2 w b l1 n (w1.alloc o') := by
  have e : ∀ (q : Obj) (k : Nat), k < w1.heap.size → (w1.alloc q).heap[k]? = w1.heap[k]? := fun q k hk => (bal w1 q).block k hk
  have hc : ∀ (p : Addr), p.block < w1.heap.size → (w1.alloc o').cell? p = (w1.alloc o).cell? p := fun p hp => ((bal w1 o').cell hp).trans ((bal w1 o).cell hp).symm
  have hf : ∀ (p : Addr), p.block < w1.heap.size → (w1.alloc o').frozen? p = (w1.alloc o).frozen? p := fun p hp => ((bal w1 o').frozen hp).trans ((bal w1 o).frozen hp).symm
  have hs : ∀ (k : Nat) (vs : List Value), k < w1.heap.size → SB (w1.alloc o) k vs → SB (w1.alloc o') k vs := fun k vs hk h =>
    ⟨fun i v hv => ⟨(hc ⟨k, i, none⟩ hk).trans (h.1 i v hv).1, (hf ⟨k, i, none⟩ hk).trans (h.1 i v hv).2⟩, by simp; omega⟩
  refine ⟨hs _ _ (by omega) h.1, (hs _ _ hg h.2.1.sb).rc (by simp), ?_⟩
  have h3 := h.2.2
  exact ⟨h3.os, h3.tape, h3.output, by have := h3.size; simpa using this, fun k hk => by
    rw [e o' k (by omega), ← e o k (by omega)]; exact h3.block k hk⟩
/-- a slice that lies apart from block r -/
def AV (A : Option Addr) (r : Nat) : Prop := ∀ b o, A = some ⟨b, o, none⟩ → b ≠ r
theorem av {w : World} {base r : Nat} {A : Option Addr} {c : Nat} {l : List Nat} (h : OW w base A c l) (hr : r < base) : AV A r := fun b o e => by
  subst e
  rcases h.form with ⟨e, _⟩ | ⟨g, e, hb, _⟩
  · cases e
  · simp only [Option.some.injEq, Addr.mk.injEq, and_true] at e
    omega
theorem sgt {w : World} {g : Nat} {l : List Value} (h : SB w g l) {x y z : Value} : g < (Go.Proofs.Ytkjfpaommbjgbaa.wr3 w g x y z).heap.size := by simpa [World.setCell] using h.2
theorem rwg {w : World} {base B : Nat} {A : Option Addr} {c : Nat} {l : List Nat} {g : Nat} {x y z : Value} (h : OW (Go.Proofs.Ytkjfpaommbjgbaa.wr3 w g x y z) base A c l) (hB : B = w.heap.size := by simp [World.setCell]) : RW (Go.Proofs.Ytkjfpaommbjgbaa.wr3 w g x y z) B A c l :=
  h.rw.more (by rw [hB]; simp [World.setCell])
theorem RW.apart {w : World} {B r : Nat} {A : Option Addr} {c : Nat} {l : List Nat} (h : RW w B A c l) (ha : AV A r) {p : Addr} (hp : p.block = r) (v : Value) : RW (w.setCell p v) B A c l :=
  ⟨⟨h.1.1, h.1.2.1, fun hn => by
    obtain ⟨b, o, e, hb, hc⟩ := h.1.2.2 hn
    refine ⟨b, o, e, hb, fun k x hk => (World.cell?_setCell_other w _ _ v ?_).trans (hc k x hk)⟩
    intro e2
    rw [e2] at hp
    exact ha b o e hp⟩, h.2⟩
theorem RW.apart6 {w : World} {B r : Nat} {A : Option Addr} {c : Nat} {l : List Nat} (h : RW w B A c l) (ha : AV A r) (x y z x' y' z' : Value) : RW (Go.Proofs.Ytkjfpaommbjgbaa.wr6 w r x y z x' y' z') B A c l :=
  (((((h.apart ha (p := ⟨r, 0, none⟩) rfl x).apart ha (p := ⟨r, 1, none⟩) rfl y).apart ha (p := ⟨r, 2, none⟩) rfl z).apart ha (p := ⟨r, 3, none⟩) rfl x').apart ha (p := ⟨r, 4, none⟩) rfl y').apart ha (p := ⟨r, 5, none⟩) rfl z'
/-- what the second region keeps -/
def SI (w : World) (b : Nat) (l : List Value) (g : Nat) (l3 : List Value) (A : Option Addr) (c : Nat) (la : List Nat) (D : Option Addr) (d : Nat) (ld : List Nat) (w' : World) : Prop :=
  S2 w b l 6 w' ∧ SB w' g l3 ∧ (RW w' w'.heap.size A c la ∧ RW w' w'.heap.size D d ld) ∧ AV A (b + 1) ∧ AV D (b + 1) ∧ b + 1 < g
section
variable {w w1 w2 : World} {b g : Nat} {l l3 : List Value} {A : Option Addr} {c : Nat} {la : List Nat} {D : Option Addr} {d : Nat} {ld : List Nat}
theorem SI.nx (h : SI w b l g l3 A c la D d ld w1) (hb : Below w1.heap.size w1 w2) : SI w b l g l3 A c la D d ld w2 :=
  ⟨h.1.nx hb, h.2.1.nx hb, ⟨st h.2.2.1.1 hb, st h.2.2.1.2 hb⟩, h.2.2.2⟩
theorem SI.dr (h : SI w b l g l3 A c la D d ld w1) : SI w b l g l3 A c la D d ld w1.drew := h.nx (Below.drew (Below.refl _ _))
theorem SI.put6 (h : SI w b l g l3 A c la D d ld w1) (x y z x' y' z' : Value) : SI w b l g l3 A c la D d ld (Go.Proofs.Ytkjfpaommbjgbaa.wr6 w1 (b + 1) x y z x' y' z') := by
  have hsz : (Go.Proofs.Ytkjfpaommbjgbaa.wr6 w1 (b + 1) x y z x' y' z').heap.size = w1.heap.size := by simp [World.setCell]
  refine ⟨h.1.put6 x y z x' y' z', h.2.1.wr6 (by have := h.2.2.2.2.2; omega) x y z x' y' z', ⟨?_, ?_⟩, h.2.2.2⟩
  · rw [hsz]; exact h.2.2.1.1.apart6 h.2.2.2.1 x y z x' y' z'
  · rw [hsz]; exact h.2.2.1.2.apart6 h.2.2.2.2.1 x y z x' y' z'
end
/-- the square of a number's size -/
theorem sq_nonneg' (x : Rat) : 0 ≤ x * x := by
  rcases Rat.le_total (a := 0) (b := x) with h | h
  · exact Rat.mul_nonneg h h
  · have h1 : 0 ≤ -x := by
      have := Rat.add_le_add_left (c := -x) |>.2 h
      rwa [Rat.neg_add_cancel, Rat.add_zero] at this
    have h2 := Rat.mul_nonneg h1 h1
    rwa [Rat.neg_mul, Rat.mul_neg, Rat.neg_neg] at h2
theorem norm_pos' {x y : Rat} (h : ¬ (x = 0 ∧ y = 0)) : qn (x * x + y * y) = false ∧ qt (x * x + y * y) ≠ 0 := by
  have h1 := sq_nonneg' x
  have h2 := sq_nonneg' y
  have h3 := Rat.add_nonneg h1 h2
  constructor
  · cases hq : qn (x * x + y * y) with
    | false => rfl
    | true => exact absurd (qn_iff.1 hq) (Rat.not_lt.2 h3)
  · intro h0
    have h4 := qt_zero.1 h0
    have h5 : x * x ≤ 0 := by
      have := Rat.add_le_add_left (c := x * x) |>.2 h2
      rwa [Rat.add_zero, h4] at this
    have h6 : x * x = 0 := Rat.le_antisymm h5 h1
    rw [h6, Rat.zero_add] at h4
    rcases Rat.mul_eq_zero.1 h6 with e | e <;> rcases Rat.mul_eq_zero.1 h4 with f | f <;> exact h ⟨e, f⟩
theorem rq_inv {w : World} {B : Nat} {A : Option Addr} {c : Nat} {D : Option Addr} {d : Nat} {q : Rat} (h1 : qn q = false) (h2 : qt q ≠ 0) (r1 : RW w B A c (digs (qt q))) (r2 : RW w B D d (digs (qd q))) :
    RQ w B (.agg #[.bool false, .slice D (digs (qd q)).length d, .slice A (digs (qt q)).length c]) q⁻¹ := by
  obtain ⟨e1, e2, e3⟩ := q_inv_t h1 h2
  refine ⟨D, d, A, c, ?_, ?_, ?_⟩
  · rw [e1, e2, e3]
  · rw [e1]; exact r2
  · rw [e2]; exact r1
theorem qw_inv {q : Rat} (h1 : qn q = false) (h2 : qt q ≠ 0) : qw q⁻¹ = qw q := by
  obtain ⟨e1, e2, _⟩ := q_inv_t h1 h2
  unfold qw; rw [e1, e2, Nat.max_comm]


set_option maxRecDepth 100000 in
set_option maxHeartbeats 16000000 in
theorem inverse_any (V : Value) (x y : Rat) (w : World) (hV : RN w w.heap.size V x y) (hne : ¬ (x = 0 ∧ y = 0)) (bx : qw x ≤ 600) (bY : qw y ≤ 600) :
    Calls Try.prog 43 #[V] w (RetN w (rwq (x * (x * x + y * y)⁻¹)) (rwq (-y * (x * x + y * y)⁻¹))) := by
  obtain ⟨A1, c1, D1, d1, A2, c2, D2, d2, rfl, r1, r2, r3, r4⟩ := hV
  simp only [rwq] at r1 r2 r3 r4 ⊢
  have hx : RQ w w.heap.size (.agg #[.bool (qn x), .slice A1 (digs (qt x)).length c1, .slice D1 (digs (qd x)).length d1]) x := ⟨A1, c1, D1, d1, rfl, r1, r2⟩
  have hy : RQ w w.heap.size (.agg #[.bool (qn y), .slice A2 (digs (qt y)).length c2, .slice D2 (digs (qd y)).length d2]) y := ⟨A2, c2, D2, d2, rfl, r3, r4⟩
  have k0 := S2.new w [.bool (qn x), .slice A1 (digs (qt x)).length c1, .slice D1 (digs (qd x)).length d1, .bool (qn y), .slice A2 (digs (qt y)).length c2, .slice D2 (digs (qd y)).length d2] [.bool false, .slice none 0 0, .slice none 0 0, .bool false, .slice none 0 0, .slice none 0 0] 26 26 6
  obtain ⟨hn1, hn2⟩ := norm_pos' hne
  have HN1 := Lib.hid hn1
  have HN2 := Lib.hid hn2
  clear hn1 hn2 hne
  have m1 := qw_mul x x
  have m2 := qw_mul y y
  have m3 := qw_add (x * x) (y * y)
  have hb : qw (x * x) + qw (y * y) ≤ 14000 := by omega
  have hb3 : qw x + qw (x * x + y * y)⁻¹ ≤ 14000 := by rw [qw_inv HN1.out HN2.out]; omega
  have hb4 : qw (-y) + qw (x * x + y * y)⁻¹ ≤ 14000 := by rw [qw_inv HN1.out HN2.out, qw_neg]; omega
  have conjS : ∀ w', S2 w w.heap.size [.bool (qn x), .slice A1 (digs (qt x)).length c1, .slice D1 (digs (qd x)).length d1, .bool (qn y), .slice A2 (digs (qt y)).length c2, .slice D2 (digs (qd y)).length d2] 6 w' → w'.cell? ⟨w.heap.size, 0, none⟩ = some (.bool (qn x)) ∧ w'.cell? ⟨w.heap.size, 1, none⟩ = some (.slice A1 (digs (qt x)).length c1) ∧ w'.cell? ⟨w.heap.size, 2, none⟩ = some (.slice D1 (digs (qd x)).length d1) ∧ w'.cell? ⟨w.heap.size, 3, none⟩ = some (.bool (qn y)) ∧ w'.cell? ⟨w.heap.size, 4, none⟩ = some (.slice A2 (digs (qt y)).length c2) ∧ w'.cell? ⟨w.heap.size, 5, none⟩ = some (.slice D2 (digs (qd y)).length d2) ∧ S2 w w.heap.size [.bool (qn x), .slice A1 (digs (qt x)).length c1, .slice D1 (digs (qd x)).length d1, .bool (qn y), .slice A2 (digs (qt y)).length c2, .slice D2 (digs (qd y)).length d2] 6 w' := fun w' h => ⟨h.1.cell 0, h.1.cell 1, h.1.cell 2, h.1.cell 3, h.1.cell 4, h.1.cell 5, h⟩
  go_enter Try.func43, Try.ntmps43
  obtain ⟨W0, hW0⟩ : ∃ W0, W0 = (w.alloc (.cells #[.bool (qn x), .slice A1 (digs (qt x)).length c1, .slice D1 (digs (qd x)).length d1, .bool (qn y), .slice A2 (digs (qt y)).length c2, .slice D2 (digs (qd y)).length d2] 26)).alloc (.cells #[.bool false, .slice none 0 0, .slice none 0 0, .bool false, .slice none 0 0, .slice none 0 0] 26) := ⟨_, rfl⟩
  go_wp2_with fail
  rw [← hW0] at k0 ⊢
  clear hW0
  have z00 := k0.2.1.2
  go_upto_region 1 with fail
  go_cut [3] (fun s3 wx => ∃ (g : Nat) (A : Option Addr) (c : Nat) (D : Option Addr) (d : Nat), s3 = .pointer (some ⟨g, 0, none⟩) ∧ SB wx g [.bool (qn (x * x + y * y)), .slice A (digs (qt (x * x + y * y))).length c, .slice D (digs (qd (x * x + y * y))).length d] ∧ S2 w w.heap.size [.bool (qn x), .slice A1 (digs (qt x)).length c1, .slice D1 (digs (qd x)).length d1, .bool (qn y), .slice A2 (digs (qt y)).length c2, .slice D2 (digs (qd y)).length d2] 6 wx ∧ w.heap.size + 1 < g ∧ g < wx.heap.size ∧ (∀ p1 p2 p3, RW (wr3 wx g p1 p2 p3) wx.heap.size A c (digs (qt (x * x + y * y)))) ∧ (∀ p1 p2 p3, RW (wr3 wx g p1 p2 p3) wx.heap.size D d (digs (qd (x * x + y * y)))) ∧ AV A (w.heap.size + 1) ∧ AV D (w.heap.size + 1))
  case first =>
    have k0d := k0.dr
    have k0s := And.intro (k0d.1.cell 0) (And.intro (k0d.1.cell 1) (And.intro (k0d.1.cell 2) (And.intro (k0d.1.cell 3) (And.intro (k0d.1.cell 4) (And.intro (k0d.1.cell 5) (k0d))))))
    go_region_held3 (fun w' => w'.cell? ⟨w.heap.size, 0, none⟩ = some (.bool (qn x)) ∧ w'.cell? ⟨w.heap.size, 1, none⟩ = some (.slice A1 (digs (qt x)).length c1) ∧ w'.cell? ⟨w.heap.size, 2, none⟩ = some (.slice D1 (digs (qd x)).length d1) ∧ w'.cell? ⟨w.heap.size, 3, none⟩ = some (.bool (qn y)) ∧ w'.cell? ⟨w.heap.size, 4, none⟩ = some (.slice A2 (digs (qt y)).length c2) ∧ w'.cell? ⟨w.heap.size, 5, none⟩ = some (.slice D2 (digs (qd y)).length d2) ∧ S2 w w.heap.size [.bool (qn x), .slice A1 (digs (qt x)).length c1, .slice D1 (digs (qd x)).length d1, .bool (qn y), .slice A2 (digs (qt y)).length c2, .slice D2 (digs (qd y)).length d2] 6 w')
      (first
        | with_reducible exact k0s
        | (have s1 := (by assumption : _ ∧ _ ∧ _ ∧ _ ∧ _ ∧ _ ∧ S2 w w.heap.size [.bool (qn x), .slice A1 (digs (qt x)).length c1, .slice D1 (digs (qd x)).length d1, .bool (qn y), .slice A2 (digs (qt y)).length c2, .slice D2 (digs (qd y)).length d2] 6 _).2.2.2.2.2.2.nx BX; have q0_ := s1.1.cell 0; have q1_ := s1.1.cell 1; have q2_ := s1.1.cell 2; have q3_ := s1.1.cell 3; have q4_ := s1.1.cell 4; have q5_ := s1.1.cell 5; with_reducible exact ⟨q0_, q1_, q2_, q3_, q4_, q5_, s1⟩)
        | exact conjS _ ((by assumption : _ ∧ _ ∧ _ ∧ _ ∧ _ ∧ _ ∧ S2 w w.heap.size [.bool (qn x), .slice A1 (digs (qt x)).length c1, .slice D1 (digs (qd x)).length d1, .bool (qn y), .slice A2 (digs (qt y)).length c2, .slice D2 (digs (qd y)).length d2] 6 _).2.2.2.2.2.2.nx (bal _ _))
        | (refine conjS _ (S2.re (by assumption : _ ∧ _ ∧ _ ∧ _ ∧ _ ∧ _ ∧ S2 w w.heap.size [.bool (qn x), .slice A1 (digs (qt x)).length c1, .slice D1 (digs (qd x)).length d1, .bool (qn y), .slice A2 (digs (qt y)).length c2, .slice D2 (digs (qd y)).length d2] 6 _).2.2.2.2.2.2 ?_); assumption)
        | (refine conjS _ (S2.wr (by assumption : _ ∧ _ ∧ _ ∧ _ ∧ _ ∧ _ ∧ S2 w w.heap.size [.bool (qn x), .slice A1 (digs (qt x)).length c1, .slice D1 (digs (qd x)).length d1, .bool (qn y), .slice A2 (digs (qt y)).length c2, .slice D2 (digs (qd y)).length d2] 6 _).2.2.2.2.2.2 ?_ _ _ _); assumption))
      (first
        | (go_at_call_of 60 (Value.agg #[.bool (qn x), .slice A1 (digs (qt x)).length c1, .slice D1 (digs (qd x)).length d1]); have hh := (by assumption : _ ∧ _ ∧ _ ∧ _ ∧ _ ∧ _ ∧ S2 w w.heap.size [.bool (qn x), .slice A1 (digs (qt x)).length c1, .slice D1 (digs (qd x)).length d1, .bool (qn y), .slice A2 (digs (qt y)).length c2, .slice D2 (digs (qd y)).length d2] 6 _).2.2.2.2.2.2; refine (product_any _ _ x x _ (hx.st hh.2.2) (hx.st hh.2.2) (by omega)).mono ?_; rintro e w14 ⟨A14, c14, D14, d14, rfl, O14, P14, BX⟩; have B14 := BX; have z14 := (hh.nx BX).2.1.2; (first | (have sg := sg.nx BX; have g0 := sg.cell 0; have g1 := sg.cell 1; have g2 := sg.cell 2; have h0 := sg.frozen 0; have h1 := sg.frozen 1; have h2 := sg.frozen 2) | (have sg := (SB.new _ [.bool false, .slice none 0 0, .slice none 0 0] 24).nx BX; have g0 := sg.cell 0; have g1 := sg.cell 1; have g2 := sg.cell 2; have h0 := sg.frozen 0; have h1 := sg.frozen 1; have h2 := sg.frozen 2) | (have sg := ((SB.new _ [.bool false, .slice none 0 0, .slice none 0 0] 24).nx (Below.drew (Below.refl _ _))).nx BX; have g0 := sg.cell 0; have g1 := sg.cell 1; have g2 := sg.cell 2; have h0 := sg.frozen 0; have h1 := sg.frozen 1; have h2 := sg.frozen 2) | skip))
        | (go_at_call_of 60 (Value.agg #[.bool (qn y), .slice A2 (digs (qt y)).length c2, .slice D2 (digs (qd y)).length d2]); have hh := (by assumption : _ ∧ _ ∧ _ ∧ _ ∧ _ ∧ _ ∧ S2 w w.heap.size [.bool (qn x), .slice A1 (digs (qt x)).length c1, .slice D1 (digs (qd x)).length d1, .bool (qn y), .slice A2 (digs (qt y)).length c2, .slice D2 (digs (qd y)).length d2] 6 _).2.2.2.2.2.2; refine (product_any _ _ y y _ (hy.st hh.2.2) (hy.st hh.2.2) (by omega)).mono ?_; rintro e w15 ⟨A15, c15, D15, d15, rfl, O15, P15, BX⟩; have B15 := BX; have z15 := (hh.nx BX).2.1.2; (first | (have sg := sg.nx BX; have g0 := sg.cell 0; have g1 := sg.cell 1; have g2 := sg.cell 2; have h0 := sg.frozen 0; have h1 := sg.frozen 1; have h2 := sg.frozen 2) | (have sg := (SB.new _ [.bool false, .slice none 0 0, .slice none 0 0] 24).nx BX; have g0 := sg.cell 0; have g1 := sg.cell 1; have g2 := sg.cell 2; have h0 := sg.frozen 0; have h1 := sg.frozen 1; have h2 := sg.frozen 2) | (have sg := ((SB.new _ [.bool false, .slice none 0 0, .slice none 0 0] 24).nx (Below.drew (Below.refl _ _))).nx BX; have g0 := sg.cell 0; have g1 := sg.cell 1; have g2 := sg.cell 2; have h0 := sg.frozen 0; have h1 := sg.frozen 1; have h2 := sg.frozen 2) | skip))
        | ((first | have gl := sg.2 | skip); go_at_call 59; have hh := (by assumption : _ ∧ _ ∧ _ ∧ _ ∧ _ ∧ _ ∧ S2 w w.heap.size [.bool (qn x), .slice A1 (digs (qt x)).length c1, .slice D1 (digs (qd x)).length d1, .bool (qn y), .slice A2 (digs (qt y)).length c2, .slice D2 (digs (qd y)).length d2] 6 _).2.2.2.2.2.2; refine (sum_any _ _ (x * x) (y * y) _ (by first | (exact ⟨A14, c14, D14, d14, rfl, st O14.rw B15, st P14.rw B15⟩) | (exact ⟨A14, c14, D14, d14, rfl, st (st O14.rw (bal _ _)) B15, st (st P14.rw (bal _ _)) B15⟩) | (exact ⟨A14, c14, D14, d14, rfl, st (st O14.rw B15) (bal _ _), st (st P14.rw B15) (bal _ _)⟩)) (by first | (exact ⟨A15, c15, D15, d15, rfl, O15.rw, P15.rw⟩) | (exact ⟨A15, c15, D15, d15, rfl, st O15.rw (bal _ _), st P15.rw (bal _ _)⟩)) hb).mono ?_; rintro e w16 ⟨A16, c16, D16, d16, rfl, O16, P16, BX⟩; have B16 := BX; have z16 := (hh.nx BX).2.1.2; have kk := hh.nx BX; (first | (have sg := sg.nx BX; have g0 := sg.cell 0; have g1 := sg.cell 1; have g2 := sg.cell 2; have h0 := sg.frozen 0; have h1 := sg.frozen 1; have h2 := sg.frozen 2) | (have sg := (SB.new _ [.bool false, .slice none 0 0, .slice none 0 0] 24).nx BX; have g0 := sg.cell 0; have g1 := sg.cell 1; have g2 := sg.cell 2; have h0 := sg.frozen 0; have h1 := sg.frozen 1; have h2 := sg.frozen 2) | (have sg := ((SB.new _ [.bool false, .slice none 0 0, .slice none 0 0] 24).nx (Below.drew (Below.refl _ _))).nx BX; have g0 := sg.cell 0; have g1 := sg.cell 1; have g2 := sg.cell 2; have h0 := sg.frozen 0; have h1 := sg.frozen 1; have h2 := sg.frozen 2) | skip)))
    all_goals
      go_wp2_with fail
      go_meet
      first
        | (refine ⟨_, A16, c16, D16, d16, rfl, SB.new w16 _ _, kk.nx (bal _ _), ?_, ?_, ?_, ?_, av O16 ?_, av P16 ?_⟩
           · exact z16
           · simp
           · exact fun p1 p2 p3 => (O16.rw.step (wr3_below (bal w16 _) (Nat.le_refl _) p1 p2 p3) (by simp))
           · exact fun p1 p2 p3 => (P16.rw.step (wr3_below (bal w16 _) (Nat.le_refl _) p1 p2 p3) (by simp))
           · first | assumption | (simp; omega)
           · first | assumption | (simp; omega))
        | (refine ⟨_, A16, c16, D16, d16, rfl, SB.put3 sg _ _ _, S2.wr kk ?_ _ _ _, ?_, sgt sg, ?_, ?_, av O16 ?_, av P16 ?_⟩
           · assumption
           · assumption
           · exact fun p1 p2 p3 => rwg (OW.put3 (OW.put3 O16 gl _ _ _) gl p1 p2 p3)
           · exact fun p1 p2 p3 => rwg (OW.put3 (OW.put3 P16 gl _ _ _) gl p1 p2 p3)
           · first | assumption | (simp; omega)
           · first | assumption | (simp; omega))
        | (refine ⟨_, A16, c16, D16, d16, rfl, SB.put3 sg _ _ _, S2.wr kk ?_ _ _ _, ?_, sgt sg, ?_, ?_, av O16 ?_, av P16 ?_⟩
           · assumption
           · assumption
           · exact fun p1 p2 p3 => rwg (OW.put3 (OW.put3 O16 (by simp) _ _ _) (by simp) p1 p2 p3)
           · exact fun p1 p2 p3 => rwg (OW.put3 (OW.put3 P16 (by simp) _ _ _) (by simp) p1 p2 p3)
           · first | assumption | (simp; omega)
           · first | assumption | (simp; omega))
  case rest =>
    obtain ⟨g, A, c, D, d, rfl, sg, k1, hg1, hg2, rA, rD, avA, avD⟩ := hcut
    have g0 := sg.cell 0
    have g1 := sg.cell 1
    have g2 := sg.cell 2
    have h0 := sg.frozen 0
    have h1 := sg.frozen 1
    have h2 := sg.frozen 2
    have k3 : SI w w.heap.size [.bool (qn x), .slice A1 (digs (qt x)).length c1, .slice D1 (digs (qd x)).length d1, .bool (qn y), .slice A2 (digs (qt y)).length c2, .slice D2 (digs (qd y)).length d2] g [.bool false, .slice D (digs (qd (x * x + y * y))).length d, .slice A (digs (qt (x * x + y * y))).length c] A c (digs (qt (x * x + y * y))) D d (digs (qd (x * x + y * y))) (wr3 wc g (.bool false) (.slice D (digs (qd (x * x + y * y))).length d) (.slice A (digs (qt (x * x + y * y))).length c)) := ⟨k1.wr hg1 _ _ _, SB.put3 sg _ _ _, ⟨(rA _ _ _).more (by simp [World.setCell]), (rD _ _ _).more (by simp [World.setCell])⟩, avA, avD, hg1⟩
    obtain ⟨W3, hW3⟩ : ∃ W3, W3 = wr3 wc g (.bool false) (.slice D (digs (qd (x * x + y * y))).length d) (.slice A (digs (qt (x * x + y * y))).length c) := ⟨_, rfl⟩
    rw [← hW3] at k3
    unfold wr3 at hW3
    go_wp2_with fail
    rw [← hW3]
    clear hW3 g0 g1 g2 h0 h1 h2 sg k1 rA rD
    have k3d := k3.dr
    have k3s := And.intro (k3d.1.1.cell 0) (And.intro (k3d.1.1.cell 1) (And.intro (k3d.1.1.cell 2) (And.intro (k3d.1.1.cell 3) (And.intro (k3d.1.1.cell 4) (And.intro (k3d.1.1.cell 5) (And.intro (k3d.2.1.cell 0) (And.intro (k3d.2.1.cell 1) (And.intro (k3d.2.1.cell 2) (And.intro (k3d.1.2.1.cell 0) (And.intro (k3d.1.2.1.frozen 0) (And.intro (k3d.1.2.1.cell 1) (And.intro (k3d.1.2.1.frozen 1) (And.intro (k3d.1.2.1.cell 2) (And.intro (k3d.1.2.1.frozen 2) (And.intro (k3d.1.2.1.cell 3) (And.intro (k3d.1.2.1.frozen 3) (And.intro (k3d.1.2.1.cell 4) (And.intro (k3d.1.2.1.frozen 4) (And.intro (k3d.1.2.1.cell 5) (And.intro (k3d.1.2.1.frozen 5) (k3d)))))))))))))))))))))
    go_region_held3 (fun w' => w'.cell? ⟨w.heap.size, 0, none⟩ = some (.bool (qn x)) ∧ w'.cell? ⟨w.heap.size, 1, none⟩ = some (.slice A1 (digs (qt x)).length c1) ∧ w'.cell? ⟨w.heap.size, 2, none⟩ = some (.slice D1 (digs (qd x)).length d1) ∧ w'.cell? ⟨w.heap.size, 3, none⟩ = some (.bool (qn y)) ∧ w'.cell? ⟨w.heap.size, 4, none⟩ = some (.slice A2 (digs (qt y)).length c2) ∧ w'.cell? ⟨w.heap.size, 5, none⟩ = some (.slice D2 (digs (qd y)).length d2) ∧ w'.cell? ⟨g, 0, none⟩ = some (.bool false) ∧ w'.cell? ⟨g, 1, none⟩ = some (.slice D (digs (qd (x * x + y * y))).length d) ∧ w'.cell? ⟨g, 2, none⟩ = some (.slice A (digs (qt (x * x + y * y))).length c) ∧ w'.cell? ⟨w.heap.size + 1, 0, none⟩ = some (cv w' (w.heap.size + 1) 0) ∧ w'.frozen? ⟨w.heap.size + 1, 0, none⟩ = false ∧ w'.cell? ⟨w.heap.size + 1, 1, none⟩ = some (cv w' (w.heap.size + 1) 1) ∧ w'.frozen? ⟨w.heap.size + 1, 1, none⟩ = false ∧ w'.cell? ⟨w.heap.size + 1, 2, none⟩ = some (cv w' (w.heap.size + 1) 2) ∧ w'.frozen? ⟨w.heap.size + 1, 2, none⟩ = false ∧ w'.cell? ⟨w.heap.size + 1, 3, none⟩ = some (cv w' (w.heap.size + 1) 3) ∧ w'.frozen? ⟨w.heap.size + 1, 3, none⟩ = false ∧ w'.cell? ⟨w.heap.size + 1, 4, none⟩ = some (cv w' (w.heap.size + 1) 4) ∧ w'.frozen? ⟨w.heap.size + 1, 4, none⟩ = false ∧ w'.cell? ⟨w.heap.size + 1, 5, none⟩ = some (cv w' (w.heap.size + 1) 5) ∧ w'.frozen? ⟨w.heap.size + 1, 5, none⟩ = false ∧ SI w w.heap.size [.bool (qn x), .slice A1 (digs (qt x)).length c1, .slice D1 (digs (qd x)).length d1, .bool (qn y), .slice A2 (digs (qt y)).length c2, .slice D2 (digs (qd y)).length d2] g [.bool false, .slice D (digs (qd (x * x + y * y))).length d, .slice A (digs (qt (x * x + y * y))).length c] A c (digs (qt (x * x + y * y))) D d (digs (qd (x * x + y * y))) w')
      (first
        | with_reducible exact k3s
        | (have s1 := (by assumption : _ ∧ _ ∧ _ ∧ _ ∧ _ ∧ _ ∧ _ ∧ _ ∧ _ ∧ _ ∧ _ ∧ _ ∧ _ ∧ _ ∧ _ ∧ _ ∧ _ ∧ _ ∧ _ ∧ _ ∧ _ ∧ SI w w.heap.size [.bool (qn x), .slice A1 (digs (qt x)).length c1, .slice D1 (digs (qd x)).length d1, .bool (qn y), .slice A2 (digs (qt y)).length c2, .slice D2 (digs (qd y)).length d2] g [.bool false, .slice D (digs (qd (x * x + y * y))).length d, .slice A (digs (qt (x * x + y * y))).length c] A c (digs (qt (x * x + y * y))) D d (digs (qd (x * x + y * y))) _).2.2.2.2.2.2.2.2.2.2.2.2.2.2.2.2.2.2.2.2.2.nx BX; have q0_ := s1.1.1.cell 0; have q1_ := s1.1.1.cell 1; have q2_ := s1.1.1.cell 2; have q3_ := s1.1.1.cell 3; have q4_ := s1.1.1.cell 4; have q5_ := s1.1.1.cell 5; have q6_ := s1.2.1.cell 0; have q7_ := s1.2.1.cell 1; have q8_ := s1.2.1.cell 2; have q9_ := s1.1.2.1.cell 0; have q10_ := s1.1.2.1.frozen 0; have q11_ := s1.1.2.1.cell 1; have q12_ := s1.1.2.1.frozen 1; have q13_ := s1.1.2.1.cell 2; have q14_ := s1.1.2.1.frozen 2; have q15_ := s1.1.2.1.cell 3; have q16_ := s1.1.2.1.frozen 3; have q17_ := s1.1.2.1.cell 4; have q18_ := s1.1.2.1.frozen 4; have q19_ := s1.1.2.1.cell 5; have q20_ := s1.1.2.1.frozen 5; with_reducible exact ⟨q0_, q1_, q2_, q3_, q4_, q5_, q6_, q7_, q8_, q9_, q10_, q11_, q12_, q13_, q14_, q15_, q16_, q17_, q18_, q19_, q20_, s1⟩)
        | (have s1 := (by assumption : _ ∧ _ ∧ _ ∧ _ ∧ _ ∧ _ ∧ _ ∧ _ ∧ _ ∧ _ ∧ _ ∧ _ ∧ _ ∧ _ ∧ _ ∧ _ ∧ _ ∧ _ ∧ _ ∧ _ ∧ _ ∧ SI w w.heap.size [.bool (qn x), .slice A1 (digs (qt x)).length c1, .slice D1 (digs (qd x)).length d1, .bool (qn y), .slice A2 (digs (qt y)).length c2, .slice D2 (digs (qd y)).length d2] g [.bool false, .slice D (digs (qd (x * x + y * y))).length d, .slice A (digs (qt (x * x + y * y))).length c] A c (digs (qt (x * x + y * y))) D d (digs (qd (x * x + y * y))) _).2.2.2.2.2.2.2.2.2.2.2.2.2.2.2.2.2.2.2.2.2.put6 (.bool (qn (x * (x * x + y * y)⁻¹))) (.slice A21 (digs (qt (x * (x * x + y * y)⁻¹))).length c21) (.slice D21 (digs (qd (x * (x * x + y * y)⁻¹))).length d21) (.bool (qn (-y * (x * x + y * y)⁻¹))) (.slice A23 (digs (qt (-y * (x * x + y * y)⁻¹))).length c23) (.slice D23 (digs (qd (-y * (x * x + y * y)⁻¹))).length d23); have q0_ := s1.1.1.cell 0; have q1_ := s1.1.1.cell 1; have q2_ := s1.1.1.cell 2; have q3_ := s1.1.1.cell 3; have q4_ := s1.1.1.cell 4; have q5_ := s1.1.1.cell 5; have q6_ := s1.2.1.cell 0; have q7_ := s1.2.1.cell 1; have q8_ := s1.2.1.cell 2; have q9_ := s1.1.2.1.cell 0; have q10_ := s1.1.2.1.frozen 0; have q11_ := s1.1.2.1.cell 1; have q12_ := s1.1.2.1.frozen 1; have q13_ := s1.1.2.1.cell 2; have q14_ := s1.1.2.1.frozen 2; have q15_ := s1.1.2.1.cell 3; have q16_ := s1.1.2.1.frozen 3; have q17_ := s1.1.2.1.cell 4; have q18_ := s1.1.2.1.frozen 4; have q19_ := s1.1.2.1.cell 5; have q20_ := s1.1.2.1.frozen 5; with_reducible exact ⟨q0_, q1_, q2_, q3_, q4_, q5_, q6_, q7_, q8_, q9_, q10_, q11_, q12_, q13_, q14_, q15_, q16_, q17_, q18_, q19_, q20_, s1⟩))
      (first
        | (go_at_call_of 60 (Value.agg #[.bool (qn x), .slice A1 (digs (qt x)).length c1, .slice D1 (digs (qd x)).length d1]); have hh := (by assumption : _ ∧ _ ∧ _ ∧ _ ∧ _ ∧ _ ∧ _ ∧ _ ∧ _ ∧ _ ∧ _ ∧ _ ∧ _ ∧ _ ∧ _ ∧ _ ∧ _ ∧ _ ∧ _ ∧ _ ∧ _ ∧ SI w w.heap.size [.bool (qn x), .slice A1 (digs (qt x)).length c1, .slice D1 (digs (qd x)).length d1, .bool (qn y), .slice A2 (digs (qt y)).length c2, .slice D2 (digs (qd y)).length d2] g [.bool false, .slice D (digs (qd (x * x + y * y))).length d, .slice A (digs (qt (x * x + y * y))).length c] A c (digs (qt (x * x + y * y))) D d (digs (qd (x * x + y * y))) _).2.2.2.2.2.2.2.2.2.2.2.2.2.2.2.2.2.2.2.2.2; refine (product_any _ _ x (x * x + y * y)⁻¹ _ (hx.st hh.1.2.2) (rq_inv HN1.out HN2.out hh.2.2.1.1 hh.2.2.1.2) hb3).mono ?_; rintro e w21 ⟨A21, c21, D21, d21, rfl, O21, P21, BX⟩; have B21 := BX)
        | (go_at_call 61; have hh := (by assumption : _ ∧ _ ∧ _ ∧ _ ∧ _ ∧ _ ∧ _ ∧ _ ∧ _ ∧ _ ∧ _ ∧ _ ∧ _ ∧ _ ∧ _ ∧ _ ∧ _ ∧ _ ∧ _ ∧ _ ∧ _ ∧ SI w w.heap.size [.bool (qn x), .slice A1 (digs (qt x)).length c1, .slice D1 (digs (qd x)).length d1, .bool (qn y), .slice A2 (digs (qt y)).length c2, .slice D2 (digs (qd y)).length d2] g [.bool false, .slice D (digs (qd (x * x + y * y))).length d, .slice A (digs (qt (x * x + y * y))).length c] A c (digs (qt (x * x + y * y))) D d (digs (qd (x * x + y * y))) _).2.2.2.2.2.2.2.2.2.2.2.2.2.2.2.2.2.2.2.2.2; refine (minus_any y A2 D2 c2 d2 _).mono ?_; rintro e w22 ⟨rfl, BX⟩; have B22 := BX)
        | (go_at_call_of 60 (Value.agg #[.bool (qn (-y)), .slice A2 (digs (qt (-y))).length c2, .slice D2 (digs (qd (-y))).length d2]); have hh := (by assumption : _ ∧ _ ∧ _ ∧ _ ∧ _ ∧ _ ∧ _ ∧ _ ∧ _ ∧ _ ∧ _ ∧ _ ∧ _ ∧ _ ∧ _ ∧ _ ∧ _ ∧ _ ∧ _ ∧ _ ∧ _ ∧ SI w w.heap.size [.bool (qn x), .slice A1 (digs (qt x)).length c1, .slice D1 (digs (qd x)).length d1, .bool (qn y), .slice A2 (digs (qt y)).length c2, .slice D2 (digs (qd y)).length d2] g [.bool false, .slice D (digs (qd (x * x + y * y))).length d, .slice A (digs (qt (x * x + y * y))).length c] A c (digs (qt (x * x + y * y))) D d (digs (qd (x * x + y * y))) _).2.2.2.2.2.2.2.2.2.2.2.2.2.2.2.2.2.2.2.2.2; refine (product_any _ _ (-y) (x * x + y * y)⁻¹ _ ⟨A2, c2, D2, d2, rfl, by rw [q_neg_t]; exact st r3 hh.1.2.2, by rw [q_neg_d]; exact st r4 hh.1.2.2⟩ (rq_inv HN1.out HN2.out hh.2.2.1.1 hh.2.2.1.2) hb4).mono ?_; rintro e w23 ⟨A23, c23, D23, d23, rfl, O23, P23, BX⟩; have B23 := BX; have kk := hh.nx BX; have sz := hh.1.2.1.2))
    have s6 := kk.1.2.1.put6 (.bool (qn (x * (x * x + y * y)⁻¹))) (.slice A21 (digs (qt (x * (x * x + y * y)⁻¹))).length c21) (.slice D21 (digs (qd (x * (x * x + y * y)⁻¹))).length d21) (.bool (qn (-y * (x * x + y * y)⁻¹))) (.slice A23 (digs (qt (-y * (x * x + y * y)⁻¹))).length c23) (.slice D23 (digs (qd (-y * (x * x + y * y)⁻¹))).length d23)
    have B6 := wr6_below (b := w.heap.size + 1) kk.1.2.2 (by omega) (.bool (qn (x * (x * x + y * y)⁻¹))) (.slice A21 (digs (qt (x * (x * x + y * y)⁻¹))).length c21) (.slice D21 (digs (qd (x * (x * x + y * y)⁻¹))).length d21) (.bool (qn (-y * (x * x + y * y)⁻¹))) (.slice A23 (digs (qt (-y * (x * x + y * y)⁻¹))).length c23) (.slice D23 (digs (qd (-y * (x * x + y * y)⁻¹))).length d23)
    have hz1 := k3d.1.2.1.2
    have BE := bt B22 B23
    have Oa := (O21.below BE (Nat.le_refl _)).put6 (b := w.heap.size + 1) hz1 (.bool (qn (x * (x * x + y * y)⁻¹))) (.slice A21 (digs (qt (x * (x * x + y * y)⁻¹))).length c21) (.slice D21 (digs (qd (x * (x * x + y * y)⁻¹))).length d21) (.bool (qn (-y * (x * x + y * y)⁻¹))) (.slice A23 (digs (qt (-y * (x * x + y * y)⁻¹))).length c23) (.slice D23 (digs (qd (-y * (x * x + y * y)⁻¹))).length d23)
    have Ob := (P21.below BE (Nat.le_refl _)).put6 (b := w.heap.size + 1) hz1 (.bool (qn (x * (x * x + y * y)⁻¹))) (.slice A21 (digs (qt (x * (x * x + y * y)⁻¹))).length c21) (.slice D21 (digs (qd (x * (x * x + y * y)⁻¹))).length d21) (.bool (qn (-y * (x * x + y * y)⁻¹))) (.slice A23 (digs (qt (-y * (x * x + y * y)⁻¹))).length c23) (.slice D23 (digs (qd (-y * (x * x + y * y)⁻¹))).length d23)
    have Oc := O23.put6 (b := w.heap.size + 1) sz (.bool (qn (x * (x * x + y * y)⁻¹))) (.slice A21 (digs (qt (x * (x * x + y * y)⁻¹))).length c21) (.slice D21 (digs (qd (x * (x * x + y * y)⁻¹))).length d21) (.bool (qn (-y * (x * x + y * y)⁻¹))) (.slice A23 (digs (qt (-y * (x * x + y * y)⁻¹))).length c23) (.slice D23 (digs (qd (-y * (x * x + y * y)⁻¹))).length d23)
    have Od := P23.put6 (b := w.heap.size + 1) sz (.bool (qn (x * (x * x + y * y)⁻¹))) (.slice A21 (digs (qt (x * (x * x + y * y)⁻¹))).length c21) (.slice D21 (digs (qd (x * (x * x + y * y)⁻¹))).length d21) (.bool (qn (-y * (x * x + y * y)⁻¹))) (.slice A23 (digs (qt (-y * (x * x + y * y)⁻¹))).length c23) (.slice D23 (digs (qd (-y * (x * x + y * y)⁻¹))).length d23)
    have r0' := s6.cell 0
    have r1' := s6.cell 1
    have r2' := s6.cell 2
    have r3' := s6.cell 3
    have r4' := s6.cell 4
    have r5' := s6.cell 5
    unfold wr6 wr3 at s6 B6 Oa Ob Oc Od r0' r1' r2' r3' r4' r5'
    go_wp2_with fail
    refine bodyPost_ret (v := .agg #[.bool (qn (x * (x * x + y * y)⁻¹)), .slice A21 (digs (qt (x * (x * x + y * y)⁻¹))).length c21, .slice D21 (digs (qd (x * (x * x + y * y)⁻¹))).length d21, .bool (qn (-y * (x * x + y * y)⁻¹)), .slice A23 (digs (qt (-y * (x * x + y * y)⁻¹))).length c23, .slice D23 (digs (qd (-y * (x * x + y * y)⁻¹))).length d23]) (by simp [results, r0', r1', r2', r3', r4', r5', go_sem]) rfl ?_
    have hle1 := Nat.le_of_lt (Nat.lt_of_succ_lt hz1)
    have hle2 := Nat.le_of_lt (Nat.lt_of_succ_lt sz)
    exact ⟨A21, c21, D21, d21, A23, c23, D23, d23, rfl, Oa.base_le hle1, Ob.base_le hle1, Oc.base_le hle2, Od.base_le hle2, B6⟩

end Go.Proofs.Ytkjfpaommbjgbaa
