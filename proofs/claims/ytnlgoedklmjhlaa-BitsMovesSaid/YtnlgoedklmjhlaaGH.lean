/- Merged texts: ExI, ExD, ExE, ExG, ExC, ExR, ExS, ExJ, ExK, ExW, ExP, ExU. -/
import Derived.Test.YtnlgoedklmjhlaaGG
import Derived.Test.YtnlgoedklmjhlaaGF
import Derived.Test.YtnlgoedklmjhlaaGE
namespace Go.Proofs.Ytnlgoedklmjhlaa
open Go.RowKit

/-- a struct made within a region, put there: what is kept -/
theorem S2.wr {w w1 : World} {b n g : Nat} {l1 : List Value} (h : S2 w b l1 n w1) (hg : b + 1 < g) (x y z : Value) : S2 w b l1 n (Go.Proofs.Ytnlgoedklmjhlaa.wr3 w1 g x y z) :=
  ⟨h.1.wr3 (by omega) x y z, (h.2.1.sb.wr3 (by omega) x y z).rc (by simp), wr3_below h.2.2 (by omega) x y z⟩
theorem S2.re {w w1 : World} {b n : Nat} {l1 : List Value} {o o' : Obj} (h : S2 w b l1 n (w1.alloc o)) (hg : b + 1 < w1.heap.size) : S2 w b l1 n (w1.alloc o') := by
  have e : ∀ (q : Obj) (k : Nat), k < w1.heap.size → (w1.alloc q).heap[k]? = w1.heap[k]? := fun q k hk => (bal w1 q).block k hk
  have hc : ∀ (p : Addr), p.block < w1.heap.size → (w1.alloc o').cell? p = (w1.alloc o).cell? p := fun p hp => ((bal w1 o').cell hp).trans ((bal w1 o).cell hp).symm
  have hf : ∀ (p : Addr), p.block < w1.heap.size → (w1.alloc o').frozen? p = (w1.alloc o).frozen? p := fun p hp => ((bal w1 o').frozen hp).trans ((bal w1 o).frozen hp).symm
  have hs : ∀ (k : Nat) (vs : List Value), k < w1.heap.size → SB (w1.alloc o) k vs → SB (w1.alloc o') k vs := fun k vs hk h =>
    ⟨fun i v hv => ⟨(hc ⟨k, i, none⟩ hk).trans (h.1 i v hv).1, (hf ⟨k, i, none⟩ hk).trans (h.1 i v hv).2⟩, by simp; omega⟩
  refine ⟨hs _ _ (by omega) h.1, (hs _ _ hg h.2.1.sb).rc (by simp), ?_⟩
  have h3 := h.2.2
  exact ⟨h3.os, h3.tape, h3.output, by have := h3.size; simpa using this, fun k hk => by
    rw [e o' k (by omega), ← e o k (by omega)]; exact h3.block k hk⟩
/-- a slice that lies apart from block r -/
def AV (A : Option Addr) (r : Nat) : Prop := ∀ b o, A = some ⟨b, o, none⟩ → b ≠ r
theorem av {w : World} {base r : Nat} {A : Option Addr} {c : Nat} {l : List Nat} (h : OW w base A c l) (hr : r < base) : AV A r := fun b o e => by
  subst e
  rcases h.form with ⟨e, _⟩ | ⟨g, e, hb, _⟩
  · cases e
  · simp only [Option.some.injEq, Addr.mk.injEq, and_true] at e
    omega
theorem sgt {w : World} {g : Nat} {l : List Value} (h : SB w g l) {x y z : Value} : g < (Go.Proofs.Ytnlgoedklmjhlaa.wr3 w g x y z).heap.size := by simpa [World.setCell] using h.2
theorem rwg {w : World} {base B : Nat} {A : Option Addr} {c : Nat} {l : List Nat} {g : Nat} {x y z : Value} (h : OW (Go.Proofs.Ytnlgoedklmjhlaa.wr3 w g x y z) base A c l) (hB : B = w.heap.size := by simp [World.setCell]) : RW (Go.Proofs.Ytnlgoedklmjhlaa.wr3 w g x y z) B A c l :=
  h.rw.more (by rw [hB]; simp [World.setCell])
theorem RW.apart {w : World} {B r : Nat} {A : Option Addr} {c : Nat} {l : List Nat} (h : RW w B A c l) (ha : AV A r) {p : Addr} (hp : p.block = r) (v : Value) : RW (w.setCell p v) B A c l :=
  ⟨⟨h.1.1, h.1.2.1, fun hn => by
    obtain ⟨b, o, e, hb, hc⟩ := h.1.2.2 hn
    refine ⟨b, o, e, hb, fun k x hk => (World.cell?_setCell_other w _ _ v ?_).trans (hc k x hk)⟩
    intro e2
    rw [e2] at hp
    exact ha b o e hp⟩, h.2⟩
theorem RW.apart6 {w : World} {B r : Nat} {A : Option Addr} {c : Nat} {l : List Nat} (h : RW w B A c l) (ha : AV A r) (x y z x' y' z' : Value) : RW (Go.Proofs.Ytnlgoedklmjhlaa.wr6 w r x y z x' y' z') B A c l :=
  (((((h.apart ha (p := ⟨r, 0, none⟩) rfl x).apart ha (p := ⟨r, 1, none⟩) rfl y).apart ha (p := ⟨r, 2, none⟩) rfl z).apart ha (p := ⟨r, 3, none⟩) rfl x').apart ha (p := ⟨r, 4, none⟩) rfl y').apart ha (p := ⟨r, 5, none⟩) rfl z'
/-- what the second region keeps -/
def SI (w : World) (b : Nat) (l : List Value) (g : Nat) (l3 : List Value) (A : Option Addr) (c : Nat) (la : List Nat) (D : Option Addr) (d : Nat) (ld : List Nat) (w' : World) : Prop :=
  S2 w b l 6 w' ∧ SB w' g l3 ∧ (RW w' w'.heap.size A c la ∧ RW w' w'.heap.size D d ld) ∧ AV A (b + 1) ∧ AV D (b + 1) ∧ b + 1 < g
section
variable {w w1 w2 : World} {b g : Nat} {l l3 : List Value} {A : Option Addr} {c : Nat} {la : List Nat} {D : Option Addr} {d : Nat} {ld : List Nat}
theorem SI.nx (h : SI w b l g l3 A c la D d ld w1) (hb : Below w1.heap.size w1 w2) : SI w b l g l3 A c la D d ld w2 :=
  ⟨h.1.nx hb, h.2.1.nx hb, ⟨st h.2.2.1.1 hb, st h.2.2.1.2 hb⟩, h.2.2.2⟩
theorem SI.dr (h : SI w b l g l3 A c la D d ld w1) : SI w b l g l3 A c la D d ld w1.drew := h.nx (Below.drew (Below.refl _ _))
theorem SI.put6 (h : SI w b l g l3 A c la D d ld w1) (x y z x' y' z' : Value) : SI w b l g l3 A c la D d ld (Go.Proofs.Ytnlgoedklmjhlaa.wr6 w1 (b + 1) x y z x' y' z') := by
  have hsz : (Go.Proofs.Ytnlgoedklmjhlaa.wr6 w1 (b + 1) x y z x' y' z').heap.size = w1.heap.size := by simp [World.setCell]
  refine ⟨h.1.put6 x y z x' y' z', h.2.1.wr6 (by have := h.2.2.2.2.2; omega) x y z x' y' z', ⟨?_, ?_⟩, h.2.2.2⟩
  · rw [hsz]; exact h.2.2.1.1.apart6 h.2.2.2.1 x y z x' y' z'
  · rw [hsz]; exact h.2.2.1.2.apart6 h.2.2.2.2.1 x y z x' y' z'
end
/-- the square of a number's size -/
theorem sq_nonneg' (x : Rat) : 0 ≤ x * x := by
  rcases Rat.le_total (a := 0) (b := x) with h | h
  · exact Rat.mul_nonneg h h
  · have h1 : 0 ≤ -x := by
      have := Rat.add_le_add_left (c := -x) |>.2 h
      rwa [Rat.neg_add_cancel, Rat.add_zero] at this
    have h2 := Rat.mul_nonneg h1 h1
    rwa [Rat.neg_mul, Rat.mul_neg, Rat.neg_neg] at h2
theorem norm_pos' {x y : Rat} (h : ¬ (x = 0 ∧ y = 0)) : qn (x * x + y * y) = false ∧ qt (x * x + y * y) ≠ 0 := by
  have h1 := sq_nonneg' x
  have h2 := sq_nonneg' y
  have h3 := Rat.add_nonneg h1 h2
  constructor
  · cases hq : qn (x * x + y * y) with
    | false => rfl
    | true => exact absurd (qn_iff.1 hq) (Rat.not_lt.2 h3)
  · intro h0
    have h4 := qt_zero.1 h0
    have h5 : x * x ≤ 0 := by
      have := Rat.add_le_add_left (c := x * x) |>.2 h2
      rwa [Rat.add_zero, h4] at this
    have h6 : x * x = 0 := Rat.le_antisymm h5 h1
    rw [h6, Rat.zero_add] at h4
    rcases Rat.mul_eq_zero.1 h6 with e | e <;> rcases Rat.mul_eq_zero.1 h4 with f | f <;> exact h ⟨e, f⟩
theorem rq_inv {w : World} {B : Nat} {A : Option Addr} {c : Nat} {D : Option Addr} {d : Nat} {q : Rat} (h1 : qn q = false) (h2 : qt q ≠ 0) (r1 : RW w B A c (digs (qt q))) (r2 : RW w B D d (digs (qd q))) :
    RQ w B (.agg #[.bool false, .slice D (digs (qd q)).length d, .slice A (digs (qt q)).length c]) q⁻¹ := by
  obtain ⟨e1, e2, e3⟩ := q_inv_t h1 h2
  refine ⟨D, d, A, c, ?_, ?_, ?_⟩
  · rw [e1, e2, e3]
  · rw [e1]; exact r2
  · rw [e2]; exact r1
theorem qw_inv {q : Rat} (h1 : qn q = false) (h2 : qt q ≠ 0) : qw q⁻¹ = qw q := by
  obtain ⟨e1, e2, _⟩ := q_inv_t h1 h2
  unfold qw; rw [e1, e2, Nat.max_comm]


set_option maxRecDepth 100000 in
set_option maxHeartbeats 16000000 in
theorem inverse_any (V : Value) (x y : Rat) (w : World) (hV : RN w w.heap.size V x y) (hne : ¬ (x = 0 ∧ y = 0)) (bx : qw x ≤ 600) (bY : qw y ≤ 600) :
    Calls Try.prog 64 #[V] w (RetN w (rwq (x * (x * x + y * y)⁻¹)) (rwq (-y * (x * x + y * y)⁻¹))) := by
  obtain ⟨A1, c1, D1, d1, A2, c2, D2, d2, rfl, r1, r2, r3, r4⟩ := hV
  simp only [rwq] at r1 r2 r3 r4 ⊢
  have hx : RQ w w.heap.size (.agg #[.bool (qn x), .slice A1 (digs (qt x)).length c1, .slice D1 (digs (qd x)).length d1]) x := ⟨A1, c1, D1, d1, rfl, r1, r2⟩
  have hy : RQ w w.heap.size (.agg #[.bool (qn y), .slice A2 (digs (qt y)).length c2, .slice D2 (digs (qd y)).length d2]) y := ⟨A2, c2, D2, d2, rfl, r3, r4⟩
  have k0 := S2.new w [.bool (qn x), .slice A1 (digs (qt x)).length c1, .slice D1 (digs (qd x)).length d1, .bool (qn y), .slice A2 (digs (qt y)).length c2, .slice D2 (digs (qd y)).length d2] [.bool false, .slice none 0 0, .slice none 0 0, .bool false, .slice none 0 0, .slice none 0 0] 26 26 6
  obtain ⟨hn1, hn2⟩ := norm_pos' hne
  have HN1 := Lib.hid hn1
  have HN2 := Lib.hid hn2
  clear hn1 hn2 hne
  have m1 := qw_mul x x
  have m2 := qw_mul y y
  have m3 := qw_add (x * x) (y * y)
  have hb : qw (x * x) + qw (y * y) ≤ 14000 := by omega
  have hb3 : qw x + qw (x * x + y * y)⁻¹ ≤ 14000 := by rw [qw_inv HN1.out HN2.out]; omega
  have hb4 : qw (-y) + qw (x * x + y * y)⁻¹ ≤ 14000 := by rw [qw_inv HN1.out HN2.out, qw_neg]; omega
  have conjS : ∀ w', S2 w w.heap.size [.bool (qn x), .slice A1 (digs (qt x)).length c1, .slice D1 (digs (qd x)).length d1, .bool (qn y), .slice A2 (digs (qt y)).length c2, .slice D2 (digs (qd y)).length d2] 6 w' → w'.cell? ⟨w.heap.size, 0, none⟩ = some (.bool (qn x)) ∧ w'.cell? ⟨w.heap.size, 1, none⟩ = some (.slice A1 (digs (qt x)).length c1) ∧ w'.cell? ⟨w.heap.size, 2, none⟩ = some (.slice D1 (digs (qd x)).length d1) ∧ w'.cell? ⟨w.heap.size, 3, none⟩ = some (.bool (qn y)) ∧ w'.cell? ⟨w.heap.size, 4, none⟩ = some (.slice A2 (digs (qt y)).length c2) ∧ w'.cell? ⟨w.heap.size, 5, none⟩ = some (.slice D2 (digs (qd y)).length d2) ∧ S2 w w.heap.size [.bool (qn x), .slice A1 (digs (qt x)).length c1, .slice D1 (digs (qd x)).length d1, .bool (qn y), .slice A2 (digs (qt y)).length c2, .slice D2 (digs (qd y)).length d2] 6 w' := fun w' h => ⟨h.1.cell 0, h.1.cell 1, h.1.cell 2, h.1.cell 3, h.1.cell 4, h.1.cell 5, h⟩
  go_enter Try.func64, Try.ntmps64
  obtain ⟨W0, hW0⟩ : ∃ W0, W0 = (w.alloc (.cells #[.bool (qn x), .slice A1 (digs (qt x)).length c1, .slice D1 (digs (qd x)).length d1, .bool (qn y), .slice A2 (digs (qt y)).length c2, .slice D2 (digs (qd y)).length d2] 26)).alloc (.cells #[.bool false, .slice none 0 0, .slice none 0 0, .bool false, .slice none 0 0, .slice none 0 0] 26) := ⟨_, rfl⟩
  go_wp2_with fail
  rw [← hW0] at k0 ⊢
  clear hW0
  have z00 := k0.2.1.2
  go_upto_region 1 with fail
  go_cut [3] (fun s3 wx => ∃ (g : Nat) (A : Option Addr) (c : Nat) (D : Option Addr) (d : Nat), s3 = .pointer (some ⟨g, 0, none⟩) ∧ SB wx g [.bool (qn (x * x + y * y)), .slice A (digs (qt (x * x + y * y))).length c, .slice D (digs (qd (x * x + y * y))).length d] ∧ S2 w w.heap.size [.bool (qn x), .slice A1 (digs (qt x)).length c1, .slice D1 (digs (qd x)).length d1, .bool (qn y), .slice A2 (digs (qt y)).length c2, .slice D2 (digs (qd y)).length d2] 6 wx ∧ w.heap.size + 1 < g ∧ g < wx.heap.size ∧ (∀ p1 p2 p3, RW (wr3 wx g p1 p2 p3) wx.heap.size A c (digs (qt (x * x + y * y)))) ∧ (∀ p1 p2 p3, RW (wr3 wx g p1 p2 p3) wx.heap.size D d (digs (qd (x * x + y * y)))) ∧ AV A (w.heap.size + 1) ∧ AV D (w.heap.size + 1))
  case first =>
    have k0d := k0.dr
    have k0s := And.intro (k0d.1.cell 0) (And.intro (k0d.1.cell 1) (And.intro (k0d.1.cell 2) (And.intro (k0d.1.cell 3) (And.intro (k0d.1.cell 4) (And.intro (k0d.1.cell 5) (k0d))))))
    go_region_held3 (fun w' => w'.cell? ⟨w.heap.size, 0, none⟩ = some (.bool (qn x)) ∧ w'.cell? ⟨w.heap.size, 1, none⟩ = some (.slice A1 (digs (qt x)).length c1) ∧ w'.cell? ⟨w.heap.size, 2, none⟩ = some (.slice D1 (digs (qd x)).length d1) ∧ w'.cell? ⟨w.heap.size, 3, none⟩ = some (.bool (qn y)) ∧ w'.cell? ⟨w.heap.size, 4, none⟩ = some (.slice A2 (digs (qt y)).length c2) ∧ w'.cell? ⟨w.heap.size, 5, none⟩ = some (.slice D2 (digs (qd y)).length d2) ∧ S2 w w.heap.size [.bool (qn x), .slice A1 (digs (qt x)).length c1, .slice D1 (digs (qd x)).length d1, .bool (qn y), .slice A2 (digs (qt y)).length c2, .slice D2 (digs (qd y)).length d2] 6 w')
      (first
        | with_reducible exact k0s
        | (have s1 := (by assumption : _ ∧ _ ∧ _ ∧ _ ∧ _ ∧ _ ∧ S2 w w.heap.size [.bool (qn x), .slice A1 (digs (qt x)).length c1, .slice D1 (digs (qd x)).length d1, .bool (qn y), .slice A2 (digs (qt y)).length c2, .slice D2 (digs (qd y)).length d2] 6 _).2.2.2.2.2.2.nx BX; have q0_ := s1.1.cell 0; have q1_ := s1.1.cell 1; have q2_ := s1.1.cell 2; have q3_ := s1.1.cell 3; have q4_ := s1.1.cell 4; have q5_ := s1.1.cell 5; with_reducible exact ⟨q0_, q1_, q2_, q3_, q4_, q5_, s1⟩)
        | exact conjS _ ((by assumption : _ ∧ _ ∧ _ ∧ _ ∧ _ ∧ _ ∧ S2 w w.heap.size [.bool (qn x), .slice A1 (digs (qt x)).length c1, .slice D1 (digs (qd x)).length d1, .bool (qn y), .slice A2 (digs (qt y)).length c2, .slice D2 (digs (qd y)).length d2] 6 _).2.2.2.2.2.2.nx (bal _ _))
        | (refine conjS _ (S2.re (by assumption : _ ∧ _ ∧ _ ∧ _ ∧ _ ∧ _ ∧ S2 w w.heap.size [.bool (qn x), .slice A1 (digs (qt x)).length c1, .slice D1 (digs (qd x)).length d1, .bool (qn y), .slice A2 (digs (qt y)).length c2, .slice D2 (digs (qd y)).length d2] 6 _).2.2.2.2.2.2 ?_); assumption)
        | (refine conjS _ (S2.wr (by assumption : _ ∧ _ ∧ _ ∧ _ ∧ _ ∧ _ ∧ S2 w w.heap.size [.bool (qn x), .slice A1 (digs (qt x)).length c1, .slice D1 (digs (qd x)).length d1, .bool (qn y), .slice A2 (digs (qt y)).length c2, .slice D2 (digs (qd y)).length d2] 6 _).2.2.2.2.2.2 ?_ _ _ _); assumption))
      (first
        | (go_at_call_of 67 (Value.agg #[.bool (qn x), .slice A1 (digs (qt x)).length c1, .slice D1 (digs (qd x)).length d1]); have hh := (by assumption : _ ∧ _ ∧ _ ∧ _ ∧ _ ∧ _ ∧ S2 w w.heap.size [.bool (qn x), .slice A1 (digs (qt x)).length c1, .slice D1 (digs (qd x)).length d1, .bool (qn y), .slice A2 (digs (qt y)).length c2, .slice D2 (digs (qd y)).length d2] 6 _).2.2.2.2.2.2; refine (product_any _ _ x x _ (hx.st hh.2.2) (hx.st hh.2.2) (by omega)).mono ?_; rintro e w14 ⟨A14, c14, D14, d14, rfl, O14, P14, BX⟩; have B14 := BX; have z14 := (hh.nx BX).2.1.2; (first | (have sg := sg.nx BX; have g0 := sg.cell 0; have g1 := sg.cell 1; have g2 := sg.cell 2; have h0 := sg.frozen 0; have h1 := sg.frozen 1; have h2 := sg.frozen 2) | (have sg := (SB.new _ [.bool false, .slice none 0 0, .slice none 0 0] 24).nx BX; have g0 := sg.cell 0; have g1 := sg.cell 1; have g2 := sg.cell 2; have h0 := sg.frozen 0; have h1 := sg.frozen 1; have h2 := sg.frozen 2) | (have sg := ((SB.new _ [.bool false, .slice none 0 0, .slice none 0 0] 24).nx (Below.drew (Below.refl _ _))).nx BX; have g0 := sg.cell 0; have g1 := sg.cell 1; have g2 := sg.cell 2; have h0 := sg.frozen 0; have h1 := sg.frozen 1; have h2 := sg.frozen 2) | skip))
        | (go_at_call_of 67 (Value.agg #[.bool (qn y), .slice A2 (digs (qt y)).length c2, .slice D2 (digs (qd y)).length d2]); have hh := (by assumption : _ ∧ _ ∧ _ ∧ _ ∧ _ ∧ _ ∧ S2 w w.heap.size [.bool (qn x), .slice A1 (digs (qt x)).length c1, .slice D1 (digs (qd x)).length d1, .bool (qn y), .slice A2 (digs (qt y)).length c2, .slice D2 (digs (qd y)).length d2] 6 _).2.2.2.2.2.2; refine (product_any _ _ y y _ (hy.st hh.2.2) (hy.st hh.2.2) (by omega)).mono ?_; rintro e w15 ⟨A15, c15, D15, d15, rfl, O15, P15, BX⟩; have B15 := BX; have z15 := (hh.nx BX).2.1.2; (first | (have sg := sg.nx BX; have g0 := sg.cell 0; have g1 := sg.cell 1; have g2 := sg.cell 2; have h0 := sg.frozen 0; have h1 := sg.frozen 1; have h2 := sg.frozen 2) | (have sg := (SB.new _ [.bool false, .slice none 0 0, .slice none 0 0] 24).nx BX; have g0 := sg.cell 0; have g1 := sg.cell 1; have g2 := sg.cell 2; have h0 := sg.frozen 0; have h1 := sg.frozen 1; have h2 := sg.frozen 2) | (have sg := ((SB.new _ [.bool false, .slice none 0 0, .slice none 0 0] 24).nx (Below.drew (Below.refl _ _))).nx BX; have g0 := sg.cell 0; have g1 := sg.cell 1; have g2 := sg.cell 2; have h0 := sg.frozen 0; have h1 := sg.frozen 1; have h2 := sg.frozen 2) | skip))
        | ((first | have gl := sg.2 | skip); go_at_call 57; have hh := (by assumption : _ ∧ _ ∧ _ ∧ _ ∧ _ ∧ _ ∧ S2 w w.heap.size [.bool (qn x), .slice A1 (digs (qt x)).length c1, .slice D1 (digs (qd x)).length d1, .bool (qn y), .slice A2 (digs (qt y)).length c2, .slice D2 (digs (qd y)).length d2] 6 _).2.2.2.2.2.2; refine (sum_any _ _ (x * x) (y * y) _ (by first | (exact ⟨A14, c14, D14, d14, rfl, st O14.rw B15, st P14.rw B15⟩) | (exact ⟨A14, c14, D14, d14, rfl, st (st O14.rw (bal _ _)) B15, st (st P14.rw (bal _ _)) B15⟩) | (exact ⟨A14, c14, D14, d14, rfl, st (st O14.rw B15) (bal _ _), st (st P14.rw B15) (bal _ _)⟩)) (by first | (exact ⟨A15, c15, D15, d15, rfl, O15.rw, P15.rw⟩) | (exact ⟨A15, c15, D15, d15, rfl, st O15.rw (bal _ _), st P15.rw (bal _ _)⟩)) hb).mono ?_; rintro e w16 ⟨A16, c16, D16, d16, rfl, O16, P16, BX⟩; have B16 := BX; have z16 := (hh.nx BX).2.1.2; have kk := hh.nx BX; (first | (have sg := sg.nx BX; have g0 := sg.cell 0; have g1 := sg.cell 1; have g2 := sg.cell 2; have h0 := sg.frozen 0; have h1 := sg.frozen 1; have h2 := sg.frozen 2) | (have sg := (SB.new _ [.bool false, .slice none 0 0, .slice none 0 0] 24).nx BX; have g0 := sg.cell 0; have g1 := sg.cell 1; have g2 := sg.cell 2; have h0 := sg.frozen 0; have h1 := sg.frozen 1; have h2 := sg.frozen 2) | (have sg := ((SB.new _ [.bool false, .slice none 0 0, .slice none 0 0] 24).nx (Below.drew (Below.refl _ _))).nx BX; have g0 := sg.cell 0; have g1 := sg.cell 1; have g2 := sg.cell 2; have h0 := sg.frozen 0; have h1 := sg.frozen 1; have h2 := sg.frozen 2) | skip)))
    all_goals
      go_wp2_with fail
      go_meet
      first
        | (refine ⟨_, A16, c16, D16, d16, rfl, SB.new w16 _ _, kk.nx (bal _ _), ?_, ?_, ?_, ?_, av O16 ?_, av P16 ?_⟩
           · exact z16
           · simp
           · exact fun p1 p2 p3 => (O16.rw.step (wr3_below (bal w16 _) (Nat.le_refl _) p1 p2 p3) (by simp))
           · exact fun p1 p2 p3 => (P16.rw.step (wr3_below (bal w16 _) (Nat.le_refl _) p1 p2 p3) (by simp))
           · first | assumption | (simp; omega)
           · first | assumption | (simp; omega))
        | (refine ⟨_, A16, c16, D16, d16, rfl, SB.put3 sg _ _ _, S2.wr kk ?_ _ _ _, ?_, sgt sg, ?_, ?_, av O16 ?_, av P16 ?_⟩
           · assumption
           · assumption
           · exact fun p1 p2 p3 => rwg (OW.put3 (OW.put3 O16 gl _ _ _) gl p1 p2 p3)
           · exact fun p1 p2 p3 => rwg (OW.put3 (OW.put3 P16 gl _ _ _) gl p1 p2 p3)
           · first | assumption | (simp; omega)
           · first | assumption | (simp; omega))
        | (refine ⟨_, A16, c16, D16, d16, rfl, SB.put3 sg _ _ _, S2.wr kk ?_ _ _ _, ?_, sgt sg, ?_, ?_, av O16 ?_, av P16 ?_⟩
           · assumption
           · assumption
           · exact fun p1 p2 p3 => rwg (OW.put3 (OW.put3 O16 (by simp) _ _ _) (by simp) p1 p2 p3)
           · exact fun p1 p2 p3 => rwg (OW.put3 (OW.put3 P16 (by simp) _ _ _) (by simp) p1 p2 p3)
           · first | assumption | (simp; omega)
           · first | assumption | (simp; omega))
  case rest =>
    obtain ⟨g, A, c, D, d, rfl, sg, k1, hg1, hg2, rA, rD, avA, avD⟩ := hcut
    have g0 := sg.cell 0
    have g1 := sg.cell 1
    have g2 := sg.cell 2
    have h0 := sg.frozen 0
    have h1 := sg.frozen 1
    have h2 := sg.frozen 2
    have k3 : SI w w.heap.size [.bool (qn x), .slice A1 (digs (qt x)).length c1, .slice D1 (digs (qd x)).length d1, .bool (qn y), .slice A2 (digs (qt y)).length c2, .slice D2 (digs (qd y)).length d2] g [.bool false, .slice D (digs (qd (x * x + y * y))).length d, .slice A (digs (qt (x * x + y * y))).length c] A c (digs (qt (x * x + y * y))) D d (digs (qd (x * x + y * y))) (wr3 wc g (.bool false) (.slice D (digs (qd (x * x + y * y))).length d) (.slice A (digs (qt (x * x + y * y))).length c)) := ⟨k1.wr hg1 _ _ _, SB.put3 sg _ _ _, ⟨(rA _ _ _).more (by simp [World.setCell]), (rD _ _ _).more (by simp [World.setCell])⟩, avA, avD, hg1⟩
    obtain ⟨W3, hW3⟩ : ∃ W3, W3 = wr3 wc g (.bool false) (.slice D (digs (qd (x * x + y * y))).length d) (.slice A (digs (qt (x * x + y * y))).length c) := ⟨_, rfl⟩
    rw [← hW3] at k3
    unfold wr3 at hW3
    go_wp2_with fail
    rw [← hW3]
    clear hW3 g0 g1 g2 h0 h1 h2 sg k1 rA rD
    have k3d := k3.dr
    have k3s := And.intro (k3d.1.1.cell 0) (And.intro (k3d.1.1.cell 1) (And.intro (k3d.1.1.cell 2) (And.intro (k3d.1.1.cell 3) (And.intro (k3d.1.1.cell 4) (And.intro (k3d.1.1.cell 5) (And.intro (k3d.2.1.cell 0) (And.intro (k3d.2.1.cell 1) (And.intro (k3d.2.1.cell 2) (And.intro (k3d.1.2.1.cell 0) (And.intro (k3d.1.2.1.frozen 0) (And.intro (k3d.1.2.1.cell 1) (And.intro (k3d.1.2.1.frozen 1) (And.intro (k3d.1.2.1.cell 2) (And.intro (k3d.1.2.1.frozen 2) (And.intro (k3d.1.2.1.cell 3) (And.intro (k3d.1.2.1.frozen 3) (And.intro (k3d.1.2.1.cell 4) (And.intro (k3d.1.2.1.frozen 4) (And.intro (k3d.1.2.1.cell 5) (And.intro (k3d.1.2.1.frozen 5) (k3d)))))))))))))))))))))
    go_region_held3 (fun w' => w'.cell? ⟨w.heap.size, 0, none⟩ = some (.bool (qn x)) ∧ w'.cell? ⟨w.heap.size, 1, none⟩ = some (.slice A1 (digs (qt x)).length c1) ∧ w'.cell? ⟨w.heap.size, 2, none⟩ = some (.slice D1 (digs (qd x)).length d1) ∧ w'.cell? ⟨w.heap.size, 3, none⟩ = some (.bool (qn y)) ∧ w'.cell? ⟨w.heap.size, 4, none⟩ = some (.slice A2 (digs (qt y)).length c2) ∧ w'.cell? ⟨w.heap.size, 5, none⟩ = some (.slice D2 (digs (qd y)).length d2) ∧ w'.cell? ⟨g, 0, none⟩ = some (.bool false) ∧ w'.cell? ⟨g, 1, none⟩ = some (.slice D (digs (qd (x * x + y * y))).length d) ∧ w'.cell? ⟨g, 2, none⟩ = some (.slice A (digs (qt (x * x + y * y))).length c) ∧ w'.cell? ⟨w.heap.size + 1, 0, none⟩ = some (cv w' (w.heap.size + 1) 0) ∧ w'.frozen? ⟨w.heap.size + 1, 0, none⟩ = false ∧ w'.cell? ⟨w.heap.size + 1, 1, none⟩ = some (cv w' (w.heap.size + 1) 1) ∧ w'.frozen? ⟨w.heap.size + 1, 1, none⟩ = false ∧ w'.cell? ⟨w.heap.size + 1, 2, none⟩ = some (cv w' (w.heap.size + 1) 2) ∧ w'.frozen? ⟨w.heap.size + 1, 2, none⟩ = false ∧ w'.cell? ⟨w.heap.size + 1, 3, none⟩ = some (cv w' (w.heap.size + 1) 3) ∧ w'.frozen? ⟨w.heap.size + 1, 3, none⟩ = false ∧ w'.cell? ⟨w.heap.size + 1, 4, none⟩ = some (cv w' (w.heap.size + 1) 4) ∧ w'.frozen? ⟨w.heap.size + 1, 4, none⟩ = false ∧ w'.cell? ⟨w.heap.size + 1, 5, none⟩ = some (cv w' (w.heap.size + 1) 5) ∧ w'.frozen? ⟨w.heap.size + 1, 5, none⟩ = false ∧ SI w w.heap.size [.bool (qn x), .slice A1 (digs (qt x)).length c1, .slice D1 (digs (qd x)).length d1, .bool (qn y), .slice A2 (digs (qt y)).length c2, .slice D2 (digs (qd y)).length d2] g [.bool false, .slice D (digs (qd (x * x + y * y))).length d, .slice A (digs (qt (x * x + y * y))).length c] A c (digs (qt (x * x + y * y))) D d (digs (qd (x * x + y * y))) w')
      (first
        | with_reducible exact k3s
        | (have s1 := (by assumption : _ ∧ _ ∧ _ ∧ _ ∧ _ ∧ _ ∧ _ ∧ _ ∧ _ ∧ _ ∧ _ ∧ _ ∧ _ ∧ _ ∧ _ ∧ _ ∧ _ ∧ _ ∧ _ ∧ _ ∧ _ ∧ SI w w.heap.size [.bool (qn x), .slice A1 (digs (qt x)).length c1, .slice D1 (digs (qd x)).length d1, .bool (qn y), .slice A2 (digs (qt y)).length c2, .slice D2 (digs (qd y)).length d2] g [.bool false, .slice D (digs (qd (x * x + y * y))).length d, .slice A (digs (qt (x * x + y * y))).length c] A c (digs (qt (x * x + y * y))) D d (digs (qd (x * x + y * y))) _).2.2.2.2.2.2.2.2.2.2.2.2.2.2.2.2.2.2.2.2.2.nx BX; have q0_ := s1.1.1.cell 0; have q1_ := s1.1.1.cell 1; have q2_ := s1.1.1.cell 2; have q3_ := s1.1.1.cell 3; have q4_ := s1.1.1.cell 4; have q5_ := s1.1.1.cell 5; have q6_ := s1.2.1.cell 0; have q7_ := s1.2.1.cell 1; have q8_ := s1.2.1.cell 2; have q9_ := s1.1.2.1.cell 0; have q10_ := s1.1.2.1.frozen 0; have q11_ := s1.1.2.1.cell 1; have q12_ := s1.1.2.1.frozen 1; have q13_ := s1.1.2.1.cell 2; have q14_ := s1.1.2.1.frozen 2; have q15_ := s1.1.2.1.cell 3; have q16_ := s1.1.2.1.frozen 3; have q17_ := s1.1.2.1.cell 4; have q18_ := s1.1.2.1.frozen 4; have q19_ := s1.1.2.1.cell 5; have q20_ := s1.1.2.1.frozen 5; with_reducible exact ⟨q0_, q1_, q2_, q3_, q4_, q5_, q6_, q7_, q8_, q9_, q10_, q11_, q12_, q13_, q14_, q15_, q16_, q17_, q18_, q19_, q20_, s1⟩)
        | (have s1 := (by assumption : _ ∧ _ ∧ _ ∧ _ ∧ _ ∧ _ ∧ _ ∧ _ ∧ _ ∧ _ ∧ _ ∧ _ ∧ _ ∧ _ ∧ _ ∧ _ ∧ _ ∧ _ ∧ _ ∧ _ ∧ _ ∧ SI w w.heap.size [.bool (qn x), .slice A1 (digs (qt x)).length c1, .slice D1 (digs (qd x)).length d1, .bool (qn y), .slice A2 (digs (qt y)).length c2, .slice D2 (digs (qd y)).length d2] g [.bool false, .slice D (digs (qd (x * x + y * y))).length d, .slice A (digs (qt (x * x + y * y))).length c] A c (digs (qt (x * x + y * y))) D d (digs (qd (x * x + y * y))) _).2.2.2.2.2.2.2.2.2.2.2.2.2.2.2.2.2.2.2.2.2.put6 (.bool (qn (x * (x * x + y * y)⁻¹))) (.slice A21 (digs (qt (x * (x * x + y * y)⁻¹))).length c21) (.slice D21 (digs (qd (x * (x * x + y * y)⁻¹))).length d21) (.bool (qn (-y * (x * x + y * y)⁻¹))) (.slice A23 (digs (qt (-y * (x * x + y * y)⁻¹))).length c23) (.slice D23 (digs (qd (-y * (x * x + y * y)⁻¹))).length d23); have q0_ := s1.1.1.cell 0; have q1_ := s1.1.1.cell 1; have q2_ := s1.1.1.cell 2; have q3_ := s1.1.1.cell 3; have q4_ := s1.1.1.cell 4; have q5_ := s1.1.1.cell 5; have q6_ := s1.2.1.cell 0; have q7_ := s1.2.1.cell 1; have q8_ := s1.2.1.cell 2; have q9_ := s1.1.2.1.cell 0; have q10_ := s1.1.2.1.frozen 0; have q11_ := s1.1.2.1.cell 1; have q12_ := s1.1.2.1.frozen 1; have q13_ := s1.1.2.1.cell 2; have q14_ := s1.1.2.1.frozen 2; have q15_ := s1.1.2.1.cell 3; have q16_ := s1.1.2.1.frozen 3; have q17_ := s1.1.2.1.cell 4; have q18_ := s1.1.2.1.frozen 4; have q19_ := s1.1.2.1.cell 5; have q20_ := s1.1.2.1.frozen 5; with_reducible exact ⟨q0_, q1_, q2_, q3_, q4_, q5_, q6_, q7_, q8_, q9_, q10_, q11_, q12_, q13_, q14_, q15_, q16_, q17_, q18_, q19_, q20_, s1⟩))
      (first
        | (go_at_call_of 67 (Value.agg #[.bool (qn x), .slice A1 (digs (qt x)).length c1, .slice D1 (digs (qd x)).length d1]); have hh := (by assumption : _ ∧ _ ∧ _ ∧ _ ∧ _ ∧ _ ∧ _ ∧ _ ∧ _ ∧ _ ∧ _ ∧ _ ∧ _ ∧ _ ∧ _ ∧ _ ∧ _ ∧ _ ∧ _ ∧ _ ∧ _ ∧ SI w w.heap.size [.bool (qn x), .slice A1 (digs (qt x)).length c1, .slice D1 (digs (qd x)).length d1, .bool (qn y), .slice A2 (digs (qt y)).length c2, .slice D2 (digs (qd y)).length d2] g [.bool false, .slice D (digs (qd (x * x + y * y))).length d, .slice A (digs (qt (x * x + y * y))).length c] A c (digs (qt (x * x + y * y))) D d (digs (qd (x * x + y * y))) _).2.2.2.2.2.2.2.2.2.2.2.2.2.2.2.2.2.2.2.2.2; refine (product_any _ _ x (x * x + y * y)⁻¹ _ (hx.st hh.1.2.2) (rq_inv HN1.out HN2.out hh.2.2.1.1 hh.2.2.1.2) hb3).mono ?_; rintro e w21 ⟨A21, c21, D21, d21, rfl, O21, P21, BX⟩; have B21 := BX)
        | (go_at_call 58; have hh := (by assumption : _ ∧ _ ∧ _ ∧ _ ∧ _ ∧ _ ∧ _ ∧ _ ∧ _ ∧ _ ∧ _ ∧ _ ∧ _ ∧ _ ∧ _ ∧ _ ∧ _ ∧ _ ∧ _ ∧ _ ∧ _ ∧ SI w w.heap.size [.bool (qn x), .slice A1 (digs (qt x)).length c1, .slice D1 (digs (qd x)).length d1, .bool (qn y), .slice A2 (digs (qt y)).length c2, .slice D2 (digs (qd y)).length d2] g [.bool false, .slice D (digs (qd (x * x + y * y))).length d, .slice A (digs (qt (x * x + y * y))).length c] A c (digs (qt (x * x + y * y))) D d (digs (qd (x * x + y * y))) _).2.2.2.2.2.2.2.2.2.2.2.2.2.2.2.2.2.2.2.2.2; refine (minus_any y A2 D2 c2 d2 _).mono ?_; rintro e w22 ⟨rfl, BX⟩; have B22 := BX)
        | (go_at_call_of 67 (Value.agg #[.bool (qn (-y)), .slice A2 (digs (qt (-y))).length c2, .slice D2 (digs (qd (-y))).length d2]); have hh := (by assumption : _ ∧ _ ∧ _ ∧ _ ∧ _ ∧ _ ∧ _ ∧ _ ∧ _ ∧ _ ∧ _ ∧ _ ∧ _ ∧ _ ∧ _ ∧ _ ∧ _ ∧ _ ∧ _ ∧ _ ∧ _ ∧ SI w w.heap.size [.bool (qn x), .slice A1 (digs (qt x)).length c1, .slice D1 (digs (qd x)).length d1, .bool (qn y), .slice A2 (digs (qt y)).length c2, .slice D2 (digs (qd y)).length d2] g [.bool false, .slice D (digs (qd (x * x + y * y))).length d, .slice A (digs (qt (x * x + y * y))).length c] A c (digs (qt (x * x + y * y))) D d (digs (qd (x * x + y * y))) _).2.2.2.2.2.2.2.2.2.2.2.2.2.2.2.2.2.2.2.2.2; refine (product_any _ _ (-y) (x * x + y * y)⁻¹ _ ⟨A2, c2, D2, d2, rfl, by rw [q_neg_t]; exact st r3 hh.1.2.2, by rw [q_neg_d]; exact st r4 hh.1.2.2⟩ (rq_inv HN1.out HN2.out hh.2.2.1.1 hh.2.2.1.2) hb4).mono ?_; rintro e w23 ⟨A23, c23, D23, d23, rfl, O23, P23, BX⟩; have B23 := BX; have kk := hh.nx BX; have sz := hh.1.2.1.2))
    have s6 := kk.1.2.1.put6 (.bool (qn (x * (x * x + y * y)⁻¹))) (.slice A21 (digs (qt (x * (x * x + y * y)⁻¹))).length c21) (.slice D21 (digs (qd (x * (x * x + y * y)⁻¹))).length d21) (.bool (qn (-y * (x * x + y * y)⁻¹))) (.slice A23 (digs (qt (-y * (x * x + y * y)⁻¹))).length c23) (.slice D23 (digs (qd (-y * (x * x + y * y)⁻¹))).length d23)
    have B6 := wr6_below (b := w.heap.size + 1) kk.1.2.2 (by omega) (.bool (qn (x * (x * x + y * y)⁻¹))) (.slice A21 (digs (qt (x * (x * x + y * y)⁻¹))).length c21) (.slice D21 (digs (qd (x * (x * x + y * y)⁻¹))).length d21) (.bool (qn (-y * (x * x + y * y)⁻¹))) (.slice A23 (digs (qt (-y * (x * x + y * y)⁻¹))).length c23) (.slice D23 (digs (qd (-y * (x * x + y * y)⁻¹))).length d23)
    have hz1 := k3d.1.2.1.2
    have BE := bt B22 B23
    have Oa := (O21.below BE (Nat.le_refl _)).put6 (b := w.heap.size + 1) hz1 (.bool (qn (x * (x * x + y * y)⁻¹))) (.slice A21 (digs (qt (x * (x * x + y * y)⁻¹))).length c21) (.slice D21 (digs (qd (x * (x * x + y * y)⁻¹))).length d21) (.bool (qn (-y * (x * x + y * y)⁻¹))) (.slice A23 (digs (qt (-y * (x * x + y * y)⁻¹))).length c23) (.slice D23 (digs (qd (-y * (x * x + y * y)⁻¹))).length d23)
    have Ob := (P21.below BE (Nat.le_refl _)).put6 (b := w.heap.size + 1) hz1 (.bool (qn (x * (x * x + y * y)⁻¹))) (.slice A21 (digs (qt (x * (x * x + y * y)⁻¹))).length c21) (.slice D21 (digs (qd (x * (x * x + y * y)⁻¹))).length d21) (.bool (qn (-y * (x * x + y * y)⁻¹))) (.slice A23 (digs (qt (-y * (x * x + y * y)⁻¹))).length c23) (.slice D23 (digs (qd (-y * (x * x + y * y)⁻¹))).length d23)
    have Oc := O23.put6 (b := w.heap.size + 1) sz (.bool (qn (x * (x * x + y * y)⁻¹))) (.slice A21 (digs (qt (x * (x * x + y * y)⁻¹))).length c21) (.slice D21 (digs (qd (x * (x * x + y * y)⁻¹))).length d21) (.bool (qn (-y * (x * x + y * y)⁻¹))) (.slice A23 (digs (qt (-y * (x * x + y * y)⁻¹))).length c23) (.slice D23 (digs (qd (-y * (x * x + y * y)⁻¹))).length d23)
    have Od := P23.put6 (b := w.heap.size + 1) sz (.bool (qn (x * (x * x + y * y)⁻¹))) (.slice A21 (digs (qt (x * (x * x + y * y)⁻¹))).length c21) (.slice D21 (digs (qd (x * (x * x + y * y)⁻¹))).length d21) (.bool (qn (-y * (x * x + y * y)⁻¹))) (.slice A23 (digs (qt (-y * (x * x + y * y)⁻¹))).length c23) (.slice D23 (digs (qd (-y * (x * x + y * y)⁻¹))).length d23)
    have r0' := s6.cell 0
    have r1' := s6.cell 1
    have r2' := s6.cell 2
    have r3' := s6.cell 3
    have r4' := s6.cell 4
    have r5' := s6.cell 5
    unfold wr6 wr3 at s6 B6 Oa Ob Oc Od r0' r1' r2' r3' r4' r5'
    go_wp2_with fail
    refine bodyPost_ret (v := .agg #[.bool (qn (x * (x * x + y * y)⁻¹)), .slice A21 (digs (qt (x * (x * x + y * y)⁻¹))).length c21, .slice D21 (digs (qd (x * (x * x + y * y)⁻¹))).length d21, .bool (qn (-y * (x * x + y * y)⁻¹)), .slice A23 (digs (qt (-y * (x * x + y * y)⁻¹))).length c23, .slice D23 (digs (qd (-y * (x * x + y * y)⁻¹))).length d23]) (by simp [results, r0', r1', r2', r3', r4', r5', go_sem]) rfl ?_
    have hle1 := Nat.le_of_lt (Nat.lt_of_succ_lt hz1)
    have hle2 := Nat.le_of_lt (Nat.lt_of_succ_lt sz)
    exact ⟨A21, c21, D21, d21, A23, c23, D23, d23, rfl, Oa.base_le hle1, Ob.base_le hle1, Oc.base_le hle2, Od.base_le hle2, B6⟩

end Go.Proofs.Ytnlgoedklmjhlaa
namespace Go.Proofs.Ytnlgoedklmjhlaa
open Go.RowKit

/-- a number made within a region, put there: what is kept -/
theorem S3.wr {w w1 : World} {b n g : Nat} {l1 l2 : List Value} (h : S3 w b l1 l2 n w1) (hg : b + 2 < g) (x y z x' y' z' : Value) : S3 w b l1 l2 n (Go.Proofs.Ytnlgoedklmjhlaa.wr6 w1 g x y z x' y' z') :=
  ⟨h.1.wr6 (by omega) x y z x' y' z', h.2.1.wr6 (by omega) x y z x' y' z', (h.2.2.1.sb.wr6 (by omega) x y z x' y' z').rc (by simp), wr6_below h.2.2.2 (by omega) x y z x' y' z'⟩
theorem S3.re {w w1 : World} {b n : Nat} {l1 l2 : List Value} {o o' : Obj} (h : S3 w b l1 l2 n (w1.alloc o)) (hg : b + 2 < w1.heap.size) : S3 w b l1 l2 n (w1.alloc o') := by
  have e : ∀ (q : Obj) (k : Nat), k < w1.heap.size → (w1.alloc q).heap[k]? = w1.heap[k]? := fun q k hk => (bal w1 q).block k hk
  have hc : ∀ (p : Addr), p.block < w1.heap.size → (w1.alloc o').cell? p = (w1.alloc o).cell? p := fun p hp => ((bal w1 o').cell hp).trans ((bal w1 o).cell hp).symm
  have hf : ∀ (p : Addr), p.block < w1.heap.size → (w1.alloc o').frozen? p = (w1.alloc o).frozen? p := fun p hp => ((bal w1 o').frozen hp).trans ((bal w1 o).frozen hp).symm
  have hs : ∀ (k : Nat) (vs : List Value), k < w1.heap.size → SB (w1.alloc o) k vs → SB (w1.alloc o') k vs := fun k vs hk h =>
    ⟨fun i v hv => ⟨(hc ⟨k, i, none⟩ hk).trans (h.1 i v hv).1, (hf ⟨k, i, none⟩ hk).trans (h.1 i v hv).2⟩, by simp; omega⟩
  refine ⟨hs _ _ (by omega) h.1, hs _ _ (by omega) h.2.1, (hs _ _ hg h.2.2.1.sb).rc (by simp), ?_⟩
  have h3 := h.2.2.2
  exact ⟨h3.os, h3.tape, h3.output, by have := h3.size; simpa using this, fun k hk => by
    rw [e o' k (by omega), ← e o k (by omega)]; exact h3.block k hk⟩
theorem SB.put6 {w : World} {b : Nat} {a0 a1 a2 a3 a4 a5 : Value} (h : SB w b [a0, a1, a2, a3, a4, a5]) (x y z x' y' z' : Value) : SB (Go.Proofs.Ytnlgoedklmjhlaa.wr6 w b x y z x' y' z') b [x, y, z, x', y', z'] :=
  (((((h.set 0 x).set 1 y).set 2 z).set 3 x').set 4 y').set 5 z'
theorem sgt6 {w : World} {g : Nat} {l : List Value} (h : SB w g l) {x y z x' y' z' : Value} : g < (Go.Proofs.Ytnlgoedklmjhlaa.wr6 w g x y z x' y' z').heap.size := by simpa [World.setCell] using h.2
theorem RN.st {w w' : World} {V : Value} {x y : Rat} (h : RN w w.heap.size V x y) (hb : Below w.heap.size w w') : RN w' w'.heap.size V x y := VN.st h hb
theorem gtz {w : World} {n g : Nat} {l : List Value} (_ : SB w g l) (h : n + 2 < g) : n + 2 < g := h
/-- a number is 0 -/
def zeroB (r i : Rw) : Bool := decide (r.a.length = 0) && decide (i.a.length = 0)
theorem zeroB_q {x y : Rat} : zeroB (rwq x) (rwq y) = decide (x = 0 ∧ y = 0) := by
  have h : ∀ q : Rat, decide ((digs (qt q)).length = 0) = decide (q = 0) := fun q => decide_eq_decide.2 ⟨fun h => qt_zero.1 (digs_len0.1 h), fun h => digs_len0.2 (qt_zero.2 h)⟩
  unfold zeroB rwq
  dsimp only
  rw [h, h, Bool.decide_and]
theorem nB_qq0 {p q : Rat} (h1 : qw p ≤ 512) (h2 : qw q ≤ 512) : nB (rwq p) (rwq q) = true := nB_qq h1 h2


set_option maxHeartbeats 4000000 in
theorem zero_any (V : Value) (r i : Rw) (w : World) (hV : VN w w.heap.size V r i) :
    Calls Try.prog 61 #[V] w fun e w' => e = .returned (.bool (zeroB r i)) ∧ Below w.heap.size w w' := by
  obtain ⟨s1, a1, b1⟩ := r
  obtain ⟨s2, a2, b2⟩ := i
  obtain ⟨A1, c1, D1, d1, A2, c2, D2, d2, rfl, p1, p2, p3, p4⟩ := hV
  dsimp only [zeroB] at p1 p2 p3 p4 ⊢
  have sg := SB.new w [.bool s1, .slice A1 a1.length c1, .slice D1 b1.length d1, .bool s2, .slice A2 a2.length c2, .slice D2 b2.length d2] 26
  have B1 := bal w (.cells #[.bool s1, .slice A1 a1.length c1, .slice D1 b1.length d1, .bool s2, .slice A2 a2.length c2, .slice D2 b2.length d2] 26)
  have m0 := sg.cell 1
  have m1 := sg.cell 4
  generalize hn : a1.length = n at *
  generalize hm : a2.length = m at *
  clear hn hm p1 p2 p3 p4 sg
  go_enter Try.func61, Try.ntmps61
  by_cases h1 : n = 0
  · subst h1
    by_cases h2 : m = 0
    · subst h2
      go_wp2_with fail
      go_ret
      exact ⟨by simp, B1⟩
    · have h3 : ((m : Int) == 0) = false := by simpa using h2
      go_wp2_with fail
      go_ret
      exact ⟨by simp, B1⟩
  · have h3 : ((n : Int) == 0) = false := by simpa using h1
    go_wp2_with fail
    go_ret
    exact ⟨by simp [h1], B1⟩


end Go.Proofs.Ytnlgoedklmjhlaa
namespace Go.Proofs.Ytnlgoedklmjhlaa
open Go.RowKit


end Go.Proofs.Ytnlgoedklmjhlaa
namespace Go.Proofs.Ytnlgoedklmjhlaa
open Go.RowKit

/-- the rational number that a raw fraction is -/
def qv (r : Rw) : Rat := ratN r.s (val r.a) (val r.b)
theorem qv_rwq (q : Rat) : qv (rwq q) = q := by unfold qv rwq; dsimp only; rw [val_digs, val_digs, q_self]
theorem rw_rat {r : Rw} (h : rsB r.s r.a r.b = true) : ∃ q, r = rwq q ∧ qw q ≤ 512 := by
  obtain ⟨s, a, b⟩ := r
  obtain ⟨q, rfl, rfl, rfl, hq⟩ := rsB_rat h
  exact ⟨q, rfl, hq⟩
theorem nB_rat {r i : Rw} (h : nB r i = true) : ∃ x y, r = rwq x ∧ i = rwq y ∧ qw x ≤ 512 ∧ qw y ≤ 512 := by
  unfold nB at h
  rw [Bool.and_eq_true] at h
  obtain ⟨x, e1, h1⟩ := rw_rat h.1
  obtain ⟨y, e2, h2⟩ := rw_rat h.2
  exact ⟨x, y, e1, e2, h1, h2⟩
theorem nB_rwq {x y : Rat} (h1 : qw x ≤ 512) (h2 : qw y ≤ 512) : nB (rwq x) (rwq y) = true := nB_qq h1 h2
theorem rwq_inj {p q : Rat} (h : rwq p = rwq q) : p = q := by rw [← qv_rwq p, h, qv_rwq]
theorem VN.rn {w : World} {B : Nat} {V : Value} {x y : Rat} (h : VN w B V (rwq x) (rwq y)) : RN w B V x y := h

def qaddA (r i r' i' : Rw) : Rw × Rw × Int := if nB r i = true ∧ nB r' i' = true then fitQ (qv r + qv r') (qv i + qv i') else (rw0, rw0, 2)
def qsubA (r i r' i' : Rw) : Rw × Rw × Int := if nB r i = true ∧ nB r' i' = true then fitQ (qv r + -qv r') (qv i + -qv i') else (rw0, rw0, 2)
def qmulA (r i r' i' : Rw) : Rw × Rw × Int := if nB r i = true ∧ nB r' i' = true then fitQ (qv r * qv r' + -(qv i * qv i')) (qv r * qv i' + qv i * qv r') else (rw0, rw0, 2)
/-- what a number is divided by: multiplied with its inverse -/
def divQ (x y u v : Rat) : Rw × Rw × Int := fitQ (x * (u * (u * u + v * v)⁻¹) + -(y * (-v * (u * u + v * v)⁻¹))) (x * (-v * (u * u + v * v)⁻¹) + y * (u * (u * u + v * v)⁻¹))
def qdivA (r i r' i' : Rw) : Rw × Rw × Int := if nB r i = true ∧ nB r' i' = true then (if qv r' = 0 ∧ qv i' = 0 then (rw0, rw0, 3) else divQ (qv r) (qv i) (qv r') (qv i')) else (rw0, rw0, 2)

variable {V U : Value} {r i r' i' : Rw} {w : World}
theorem eadd_any (hV : VN w w.heap.size V r i) (hU : VN w w.heap.size U r' i') : Calls Try.prog 25 #[V, U] w (RetNE w (qaddA r i r' i')) := by
  unfold qaddA
  by_cases h : nB r i = true ∧ nB r' i' = true
  · rw [if_pos h]
    obtain ⟨x, y, rfl, rfl, h1, h2⟩ := nB_rat h.1
    obtain ⟨u, v, rfl, rfl, h3, h4⟩ := nB_rat h.2
    rw [qv_rwq, qv_rwq, qv_rwq, qv_rwq]
    exact eadd_ok V U x y u v w hV hU h1 h2 h3 h4
  · rw [if_neg h]
    exact eadd_bad V U r i r' i' w hV hU h
theorem esub_any (hV : VN w w.heap.size V r i) (hU : VN w w.heap.size U r' i') : Calls Try.prog 26 #[V, U] w (RetNE w (qsubA r i r' i')) := by
  unfold qsubA
  by_cases h : nB r i = true ∧ nB r' i' = true
  · rw [if_pos h]
    obtain ⟨x, y, rfl, rfl, h1, h2⟩ := nB_rat h.1
    obtain ⟨u, v, rfl, rfl, h3, h4⟩ := nB_rat h.2
    rw [qv_rwq, qv_rwq, qv_rwq, qv_rwq]
    exact esub_ok V U x y u v w hV hU h1 h2 h3 h4
  · rw [if_neg h]
    exact esub_bad V U r i r' i' w hV hU h
theorem emul_any (hV : VN w w.heap.size V r i) (hU : VN w w.heap.size U r' i') : Calls Try.prog 30 #[V, U] w (RetNE w (qmulA r i r' i')) := by
  unfold qmulA
  by_cases h : nB r i = true ∧ nB r' i' = true
  · rw [if_pos h]
    obtain ⟨x, y, rfl, rfl, h1, h2⟩ := nB_rat h.1
    obtain ⟨u, v, rfl, rfl, h3, h4⟩ := nB_rat h.2
    rw [qv_rwq, qv_rwq, qv_rwq, qv_rwq]
    exact emul_ok V U x y u v w hV hU h1 h2 h3 h4
  · rw [if_neg h]
    exact emul_bad V U r i r' i' w hV hU h
end Go.Proofs.Ytnlgoedklmjhlaa
namespace Go.Proofs.Ytnlgoedklmjhlaa
open Go.RowKit

/-- what a region keeps: two structs -/
def T2 (w : World) (b : Nat) (l1 l2 : List Value) (w' : World) : Prop := SB w' b l1 ∧ SB w' (b + 1) l2 ∧ Below b w w'
theorem gt1 {w : World} {n g : Nat} {l : List Value} (_ : SB w g l) (h : n + 1 < g) : n + 1 < g := h
section
variable {w w1 w2 : World} {b g : Nat} {l1 l2 : List Value}
theorem T2.nx (h : T2 w b l1 l2 w1) (hb : Below w1.heap.size w1 w2) : T2 w b l1 l2 w2 :=
  ⟨h.1.nx hb, h.2.1.nx hb, h.2.2.trans (hb.mono (by have := h.1.2; omega))⟩
theorem T2.dr (h : T2 w b l1 l2 w1) : T2 w b l1 l2 w1.drew := ⟨h.1, h.2.1, bdN h.2.2 1⟩
theorem T2.wr (h : T2 w b l1 l2 w1) (hg : b + 1 < g) (x y z : Value) : T2 w b l1 l2 (Go.Proofs.Ytnlgoedklmjhlaa.wr3 w1 g x y z) :=
  ⟨h.1.wr3 (by omega) x y z, h.2.1.wr3 (by omega) x y z, wr3_below h.2.2 (by omega) x y z⟩
theorem T2.re {o o' : Obj} (h : T2 w b l1 l2 (w1.alloc o)) (hg : b + 1 < w1.heap.size) : T2 w b l1 l2 (w1.alloc o') := by
  have e : ∀ (q : Obj) (k : Nat), k < w1.heap.size → (w1.alloc q).heap[k]? = w1.heap[k]? := fun q k hk => (bal w1 q).block k hk
  have hc : ∀ (p : Addr), p.block < w1.heap.size → (w1.alloc o').cell? p = (w1.alloc o).cell? p := fun p hp => ((bal w1 o').cell hp).trans ((bal w1 o).cell hp).symm
  have hf : ∀ (p : Addr), p.block < w1.heap.size → (w1.alloc o').frozen? p = (w1.alloc o).frozen? p := fun p hp => ((bal w1 o').frozen hp).trans ((bal w1 o).frozen hp).symm
  have hs : ∀ (k : Nat) (vs : List Value), k < w1.heap.size → SB (w1.alloc o) k vs → SB (w1.alloc o') k vs := fun k vs hk h =>
    ⟨fun i v hv => ⟨(hc ⟨k, i, none⟩ hk).trans (h.1 i v hv).1, (hf ⟨k, i, none⟩ hk).trans (h.1 i v hv).2⟩, by simp; omega⟩
  refine ⟨hs _ _ (by omega) h.1, hs _ _ hg h.2.1, ?_⟩
  have h3 := h.2.2
  exact ⟨h3.os, h3.tape, h3.output, by have := h3.size; simpa using this, fun k hk => by
    rw [e o' k (by omega), ← e o k (by omega)]; exact h3.block k hk⟩
theorem T2.new (w : World) (l1 l2 : List Value) (t1 t2 : TypeId) : T2 w w.heap.size l1 l2 ((w.alloc (.cells l1.toArray t1)).alloc (.cells l2.toArray t2)) := by
  have s1 := SB.new w l1 t1
  have s2 := SB.new (w.alloc (.cells l1.toArray t1)) l2 t2
  rw [show (w.alloc (.cells l1.toArray t1)).heap.size = w.heap.size + 1 by simp] at s2
  have B1 := bal w (.cells l1.toArray t1)
  have B2 := bal (w.alloc (.cells l1.toArray t1)) (.cells l2.toArray t2)
  exact ⟨s1.nx B2, s2, bt B1 B2⟩
end


def qcmpA (r i r' i' : Rw) : Int × Int := if chkN2 true r i r' i' = 0 then (cmpQ (qv r) (qv r'), 0) else (0, chkN2 true r i r' i')
theorem chkN2_zero {r i r' i' : Rw} (h : chkN2 true r i r' i' = 0) : nB r i = true ∧ nB r' i' = true ∧ i.a = [] ∧ i'.a = [] := by
  unfold chkN2 at h
  split at h
  · next hn =>
    split at h
    · cases h
    · next hq =>
      refine ⟨hn.1, hn.2, ?_, ?_⟩ <;> apply List.eq_nil_of_length_eq_zero <;> (have := not_and.1 hq rfl; omega)
  · cases h
end Go.Proofs.Ytnlgoedklmjhlaa
namespace Go.Proofs.Ytnlgoedklmjhlaa
open Go.RowKit


set_option maxHeartbeats 4000000 in
theorem rreal_any (V : Value) (r i : Rw) (w : World) (hV : VN w w.heap.size V r i) :
    Calls Try.prog 89 #[V] w fun e w' => e = .returned (.bool (decide (i.a.length = 0))) ∧ Below w.heap.size w w' := by
  obtain ⟨s1, a1, b1⟩ := r
  obtain ⟨s2, a2, b2⟩ := i
  obtain ⟨A1, c1, D1, d1, A2, c2, D2, d2, rfl, p1, p2, p3, p4⟩ := hV
  dsimp only at p1 p2 p3 p4 ⊢
  have sg := SB.new w [.bool s1, .slice A1 a1.length c1, .slice D1 b1.length d1, .bool s2, .slice A2 a2.length c2, .slice D2 b2.length d2] 26
  have B1 := bal w (.cells #[.bool s1, .slice A1 a1.length c1, .slice D1 b1.length d1, .bool s2, .slice A2 a2.length c2, .slice D2 b2.length d2] 26)
  have m1 := sg.cell 4
  generalize hm : a2.length = m at *
  clear hm p1 p2 p3 p4 sg
  go_enter Try.func89, Try.ntmps89
  by_cases h2 : m = 0
  · subst h2
    go_wp2_with fail
    go_ret
    exact ⟨by simp, B1⟩
  · have h3 : ((m : Int) == 0) = false := by simpa using h2
    go_wp2_with fail
    go_ret
    exact ⟨by simp [h2], B1⟩
def largeB (r i : Rw) : Bool := decide (512 < r.a.length) || (decide (512 < r.b.length) || (decide (512 < i.a.length) || decide (512 < i.b.length)))
end Go.Proofs.Ytnlgoedklmjhlaa
namespace Go.Proofs.Ytnlgoedklmjhlaa
open Go.RowKit

theorem RQ.parts {w : World} {B : Nat} {s : Bool} {A : Option Addr} {n c : Nat} {D : Option Addr} {m d : Nat} {q : Rat} (h : RQ w B (.agg #[.bool s, .slice A n c, .slice D m d]) q) : RW w B A c (digs (qt q)) ∧ RW w B D d (digs (qd q)) := by
  obtain ⟨A', c', D', d', e, h1, h2⟩ := h
  simp only [Value.agg.injEq, Array.mk.injEq, List.cons.injEq, Value.slice.injEq, and_true] at e
  obtain ⟨_, ⟨rfl, _, rfl⟩, rfl, _, rfl⟩ := e
  exact ⟨h1, h2⟩
theorem RQ.neg {w : World} {B : Nat} {s : Bool} {A : Option Addr} {n c : Nat} {D : Option Addr} {m d : Nat} {q : Rat} (h : RQ w B (.agg #[.bool s, .slice A n c, .slice D m d]) q) :
    RQ w B (.agg #[.bool (qn (-q)), .slice A (digs (qt (-q))).length c, .slice D (digs (qd (-q))).length d]) (-q) := by
  obtain ⟨h1, h2⟩ := h.parts
  exact ⟨A, c, D, d, rfl, by rw [q_neg_t]; exact h1, by rw [q_neg_d]; exact h2⟩
theorem S3.wr3 {w w1 : World} {b n g : Nat} {l1 l2 : List Value} (h : S3 w b l1 l2 n w1) (hg : b + 2 < g) (x y z : Value) : S3 w b l1 l2 n (Go.Proofs.Ytnlgoedklmjhlaa.wr3 w1 g x y z) :=
  ⟨h.1.wr3 (by omega) x y z, h.2.1.wr3 (by omega) x y z, (h.2.2.1.sb.wr3 (by omega) x y z).rc (by simp), wr3_below h.2.2.2 (by omega) x y z⟩
/-- what the second region keeps: besides, the first fraction -/
def P3 (w wc : World) (b : Nat) (l1 l2 : List Value) (n g : Nat) (l3 : List Value) (w' : World) : Prop := S3 w b l1 l2 n w' ∧ SB w' g l3 ∧ Below wc.heap.size wc w'
section
variable {w wc w1 w2 : World} {b n g g2 : Nat} {l1 l2 l3 : List Value}
theorem P3.nx (h : P3 w wc b l1 l2 n g l3 w1) (hb : Below w1.heap.size w1 w2) : P3 w wc b l1 l2 n g l3 w2 := ⟨h.1.nx hb, h.2.1.nx hb, bt h.2.2 hb⟩
theorem P3.dr (h : P3 w wc b l1 l2 n g l3 w1) : P3 w wc b l1 l2 n g l3 w1.drew := h.nx (Below.drew (Below.refl _ _))
theorem P3.wr3 (h : P3 w wc b l1 l2 n g l3 w1) (hg : b + 2 < g2 ∧ g < g2 ∧ wc.heap.size ≤ g2) (x y z : Value) : P3 w wc b l1 l2 n g l3 (Go.Proofs.Ytnlgoedklmjhlaa.wr3 w1 g2 x y z) :=
  ⟨h.1.wr3 hg.1 x y z, h.2.1.wr3 (by omega) x y z, wr3_below h.2.2 hg.2.2 x y z⟩
theorem sbre {o o' : Obj} {k : Nat} {vs : List Value} (hk : k < w1.heap.size) (h : SB (w1.alloc o) k vs) : SB (w1.alloc o') k vs :=
  ⟨fun i v hv => ⟨((((bal w1 o').cell (p := ⟨k, i, none⟩) hk).trans ((bal w1 o).cell (p := ⟨k, i, none⟩) hk).symm)).trans (h.1 i v hv).1, ((((bal w1 o').frozen (p := ⟨k, i, none⟩) hk).trans ((bal w1 o).frozen (p := ⟨k, i, none⟩) hk).symm)).trans (h.1 i v hv).2⟩, by simp; omega⟩
theorem P3.re {o o' : Obj} (h : P3 w wc b l1 l2 n g l3 (w1.alloc o)) (hg : b + 2 < w1.heap.size ∧ g < w1.heap.size ∧ wc.heap.size ≤ w1.heap.size) : P3 w wc b l1 l2 n g l3 (w1.alloc o') := by
  refine ⟨h.1.re hg.1, sbre hg.2.1 h.2.1, ?_⟩
  have h3 := h.2.2
  have e : ∀ (q : Obj) (k : Nat), k < w1.heap.size → (w1.alloc q).heap[k]? = w1.heap[k]? := fun q k hk => (bal w1 q).block k hk
  exact ⟨h3.os, h3.tape, h3.output, by have := h3.size; simpa using this, fun k hk => by
    rw [e o' k (by omega), ← e o k (by omega)]; exact h3.block k hk⟩
theorem gtp {l : List Value} (_ : SB w g2 l) (h : b + 2 < g2 ∧ g < g2 ∧ n ≤ g2) : b + 2 < g2 ∧ g < g2 ∧ n ≤ g2 := h
end


end Go.Proofs.Ytnlgoedklmjhlaa
namespace Go.Proofs.Ytnlgoedklmjhlaa
open Go.RowKit


end Go.Proofs.Ytnlgoedklmjhlaa
namespace Go.Proofs.Ytnlgoedklmjhlaa
open Go.RowKit

theorem largeB_q {x y : Rat} : largeB (rwq x) (rwq y) = !decide (qw x ≤ 512 ∧ qw y ≤ 512) := by
  unfold largeB rwq qw
  dsimp only
  rw [Bool.eq_iff_iff]
  simp only [Bool.or_eq_true, decide_eq_true_eq, Bool.not_eq_true', decide_eq_false_iff_not, Nat.max_le]
  omega
/-- fit of what is of one's own -/
def RetF (w : World) (base : Nat) (x : Rw × Rw × Int) (e : Ending) (w' : World) : Prop := ∃ A1 c1 D1 d1 A2 c2 D2 d2, e = .returned (.tuple #[.agg #[.bool x.1.s, .slice A1 x.1.a.length c1, .slice D1 x.1.b.length d1, .bool x.2.1.s, .slice A2 x.2.1.a.length c2, .slice D2 x.2.1.b.length d2], .int .i64 x.2.2]) ∧
  OW w' base A1 c1 x.1.a ∧ OW w' base D1 d1 x.1.b ∧ OW w' base A2 c2 x.2.1.a ∧ OW w' base D2 d2 x.2.1.b ∧ Below w.heap.size w w'
end Go.Proofs.Ytnlgoedklmjhlaa
namespace Go.Proofs.Ytnlgoedklmjhlaa
open Go.RowKit


end Go.Proofs.Ytnlgoedklmjhlaa
namespace Go.Proofs.Ytnlgoedklmjhlaa
open Go.RowKit


set_option maxRecDepth 100000 in
set_option maxHeartbeats 4000000 in
theorem rwhole1_any (V : Value) (r i : Rw) (w : World) (hV : VN w w.heap.size V r i) :
    Calls Try.prog 70 #[V] w fun e w' => e = .returned (.bool (wB r i)) ∧ Below w.heap.size w w' := by
  obtain ⟨A1, c1, D1, d1, A2, c2, D2, d2, rfl, p1, p2, p3, p4⟩ := hV
  have Ha : VN w w.heap.size (.agg #[.bool r.s, .slice A1 r.a.length c1, .slice D1 r.b.length d1, .bool i.s, .slice A2 i.a.length c2, .slice D2 i.b.length d2]) r i := ⟨A1, c1, D1, d1, A2, c2, D2, d2, rfl, p1, p2, p3, p4⟩
  have S0 := SB.new w [.bool r.s, .slice A1 r.a.length c1, .slice D1 r.b.length d1, .bool i.s, .slice A2 i.a.length c2, .slice D2 i.b.length d2] 26
  have C0 := bal w (.cells #[.bool r.s, .slice A1 r.a.length c1, .slice D1 r.b.length d1, .bool i.s, .slice A2 i.a.length c2, .slice D2 i.b.length d2] 26)
  have hs1 := fun V w' h => resound_any V r i w' h
  have hr1 := fun V w' h => rreal_any V r i w' h
  unfold wB
  obtain ⟨t3, hd⟩ : ∃ t3, decide (r.b = [1]) = t3 := ⟨_, rfl⟩
  rw [hd]
  have hd := Lib.hid hd
  generalize nB r i = t1 at *
  generalize decide (i.a.length = 0) = t2 at *
  cases t1 with
  | false =>
    have i0 := S0.cell 0
    have i1 := S0.cell 1
    have i2 := S0.cell 2
    have i3 := S0.cell 3
    have i4 := S0.cell 4
    have i5 := S0.cell 5
    go_enter Try.func70, Try.ntmps70
    go_wp2_with fail
    refine (hs1 _ _ (Ha.st C0)).mono ?_; rintro e w3 ⟨rfl, B3⟩
    have S3 := S0.nx B3
    have C3 := bt C0 B3
    clear i0 i1 i2 i3 i4 i5
    go_wp2_with fail
    go_ret
    exact ⟨by simp, C3⟩
  | true =>
    cases t2 with
    | false =>
      have i0 := S0.cell 0
      have i1 := S0.cell 1
      have i2 := S0.cell 2
      have i3 := S0.cell 3
      have i4 := S0.cell 4
      have i5 := S0.cell 5
      go_enter Try.func70, Try.ntmps70
      go_wp2_with fail
      refine (hs1 _ _ (Ha.st C0)).mono ?_; rintro e w3 ⟨rfl, B3⟩
      have S3 := S0.nx B3
      have C3 := bt C0 B3
      clear i0 i1 i2 i3 i4 i5
      have j0 := S3.cell 0
      have j1 := S3.cell 1
      have j2 := S3.cell 2
      have j3 := S3.cell 3
      have j4 := S3.cell 4
      have j5 := S3.cell 5
      go_wp2_with fail
      refine (hr1 _ _ (Ha.st C3)).mono ?_; rintro e w4 ⟨rfl, B4⟩
      have S4 := S3.nx B4
      have C4 := bt C3 B4
      clear j0 j1 j2 j3 j4 j5
      go_wp2_with fail
      go_ret
      exact ⟨by simp, C4⟩
    | true =>
      have i0 := S0.cell 0
      have i1 := S0.cell 1
      have i2 := S0.cell 2
      have i3 := S0.cell 3
      have i4 := S0.cell 4
      have i5 := S0.cell 5
      go_enter Try.func70, Try.ntmps70
      go_wp2_with fail
      refine (hs1 _ _ (Ha.st C0)).mono ?_; rintro e w3 ⟨rfl, B3⟩
      have S3 := S0.nx B3
      have C3 := bt C0 B3
      clear i0 i1 i2 i3 i4 i5
      have j0 := S3.cell 0
      have j1 := S3.cell 1
      have j2 := S3.cell 2
      have j3 := S3.cell 3
      have j4 := S3.cell 4
      have j5 := S3.cell 5
      go_wp2_with fail
      refine (hr1 _ _ (Ha.st C3)).mono ?_; rintro e w4 ⟨rfl, B4⟩
      have S4 := S3.nx B4
      have C4 := bt C3 B4
      clear j0 j1 j2 j3 j4 j5
      have i2 := S4.cell 2
      have L4 := bal w4 (.cells #[.int .u32 (1 : Nat)] 46)
      have r1 := RW.one w4 46 (show 1 < 4294967296 by omega)
      have hsm := same_any D1 (some ⟨w4.heap.size, 0, none⟩) d1 1 r.b.length 1 r.b [1] _ rfl rfl (st p2 (bt C4 L4)) (r1.more (by simp))
      rw [hd.out] at hsm
      go_wp2_with fail
      refine hsm.mono ?_; rintro e w5 ⟨rfl, q, rfl⟩
      go_wp2_with fail
      go_ret
      exact ⟨by simp, bdN (bt C4 L4) q⟩

end Go.Proofs.Ytnlgoedklmjhlaa
namespace Go.Proofs.Ytnlgoedklmjhlaa
open Go.RowKit


theorem lit1 (w : World) : OW (w.alloc (.cells #[.int .u32 (1 : Nat)] 46)) w.heap.size (some ⟨w.heap.size, 0, none⟩) 1 [1] := OW.lit w [1] (by simp) (B32_cons (by omega) B32_nil)
set_option maxHeartbeats 4000000 in
theorem rzero_any (w : World) : Calls Try.prog 48 #[] w fun e w' => ∃ D d, e = .returned (.agg #[.bool false, .slice none 0 0, .slice D 1 d]) ∧ OW w' w.heap.size D d [1] ∧ Below w.heap.size w w' := by
  have B1 := bal w (.cells #[.bool false, .slice none 0 0, .slice (some ⟨w.heap.size + 1, 0, none⟩) 1 1] 24)
  have s1 := SB.new w [.bool false, .slice none 0 0, .slice (some ⟨w.heap.size + 1, 0, none⟩) 1 1] 24
  have z1 : (w.alloc (.cells #[.bool false, .slice none 0 0, .slice (some ⟨w.heap.size + 1, 0, none⟩) 1 1] 24)).heap.size = w.heap.size + 1 := by simp
  have B2 := bal (w.alloc (.cells #[.bool false, .slice none 0 0, .slice (some ⟨w.heap.size + 1, 0, none⟩) 1 1] 24)) (.cells #[.int .u32 (1 : Nat)] 46)
  have O1 := lit1 (w.alloc (.cells #[.bool false, .slice none 0 0, .slice (some ⟨w.heap.size + 1, 0, none⟩) 1 1] 24))
  rw [z1] at O1
  have s2 := s1.nx B2
  have r0 := s2.cell 0
  have r1 := s2.cell 1
  have r2 := s2.cell 2
  have B3 := bt B1 B2
  clear s1 s2 B1 B2 z1
  go_enter Try.func48, Try.ntmps48
  go_wp2_with fail
  refine bodyPost_ret (v := (.agg #[.bool false, .slice none 0 0, .slice (some ⟨w.heap.size + 1, 0, none⟩) 1 1])) (by simp [results, go_sem]) rfl ?_
  exact ⟨_, _, rfl, O1.base_le (Nat.le_succ _), B3⟩


/-- an answer in its own words -/
def RetI (w : World) (s : Bool) (k : Nat) (e : Ending) (w' : World) : Prop := ∃ A1 c1 D1 d1 A2 c2 D2 d2, e = .returned (.agg #[.bool s, .slice A1 (digs k).length c1, .slice D1 1 d1, .bool false, .slice A2 0 c2, .slice D2 1 d2]) ∧
  OW w' w.heap.size A1 c1 (digs k) ∧ OW w' w.heap.size D1 d1 [1] ∧ OW w' w.heap.size A2 c2 [] ∧ OW w' w.heap.size D2 d2 [1] ∧ Below w.heap.size w w'
end Go.Proofs.Ytnlgoedklmjhlaa
