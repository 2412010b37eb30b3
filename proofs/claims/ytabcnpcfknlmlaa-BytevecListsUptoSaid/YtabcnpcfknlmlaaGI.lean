/- Merged texts: ExD, ExE, ExG, ExC. -/
import Derived.Test.YtabcnpcfknlmlaaGG
import Derived.Test.YtabcnpcfknlmlaaGH
import Derived.Test.YtabcnpcfknlmlaaGF
namespace Go.Proofs.Ytabcnpcfknlmlaa
open Go.RowKit

/-- a number made within a region, put there: what is kept -/
theorem S3.wr {w w1 : World} {b n g : Nat} {l1 l2 : List Value} (h : S3 w b l1 l2 n w1) (hg : b + 2 < g) (x y z x' y' z' : Value) : S3 w b l1 l2 n (Go.Proofs.Ytabcnpcfknlmlaa.wr6 w1 g x y z x' y' z') :=
  ⟨h.1.wr6 (by omega) x y z x' y' z', h.2.1.wr6 (by omega) x y z x' y' z', (h.2.2.1.sb.wr6 (by omega) x y z x' y' z').rc (by simp), wr6_below h.2.2.2 (by omega) x y z x' y' z'⟩
theorem S3.re {w w1 : World} {b n : Nat} {l1 l2 : List Value} {o o' : Obj} (h : S3 w b l1 l2 n (w1.alloc o)) (hg : b + 2 < w1.heap.size) : S3 w b l1 l2 n (w1.alloc o') := by
  have e : ∀ (q : Obj) (k : Nat), k < w1.heap.size → (w1.alloc q).heap[k]? = w1.heap[k]? := fun q k hk => (bal w1 q).block k hk
  have hc : ∀ (p : Addr), p.block < w1.heap.size → (w1.alloc o').cell? p = (w1.alloc o).cell? p := fun p hp => ((bal w1 o').cell hp).trans ((bal w1 o).cell hp).symm
  have hf : ∀ (p : Addr), p.block < w1.heap.size → (w1.alloc o').frozen? p = (w1.alloc o).frozen? p := fun p hp => ((bal w1 o').frozen hp).trans ((bal w1 o).frozen hp).symm
  have hs : ∀ (k : Nat) (vs : List Value), k < w1.heap.size → SB (w1.alloc o) k vs → SB (w1.alloc o') k vs := fun k vs hk h =>
    ⟨fun i v hv => ⟨(hc ⟨k, i, none⟩ hk).trans (h.1 i v hv).1, (hf ⟨k, i, none⟩ hk).trans (h.1 i v hv).2⟩, by simp; omega⟩
  refine ⟨hs _ _ (by omega) h.1, hs _ _ (by omega) h.2.1, (hs _ _ hg h.2.2.1.sb).rc (by simp), ?_⟩
  have h3 := h.2.2.2
  exact ⟨h3.os, h3.tape, h3.output, by have := h3.size; simpa using this, fun k hk => by
    rw [e o' k (by omega), ← e o k (by omega)]; exact h3.block k hk⟩
theorem SB.put6 {w : World} {b : Nat} {a0 a1 a2 a3 a4 a5 : Value} (h : SB w b [a0, a1, a2, a3, a4, a5]) (x y z x' y' z' : Value) : SB (Go.Proofs.Ytabcnpcfknlmlaa.wr6 w b x y z x' y' z') b [x, y, z, x', y', z'] :=
  (((((h.set 0 x).set 1 y).set 2 z).set 3 x').set 4 y').set 5 z'
theorem sgt6 {w : World} {g : Nat} {l : List Value} (h : SB w g l) {x y z x' y' z' : Value} : g < (Go.Proofs.Ytabcnpcfknlmlaa.wr6 w g x y z x' y' z').heap.size := by simpa [World.setCell] using h.2
theorem RN.st {w w' : World} {V : Value} {x y : Rat} (h : RN w w.heap.size V x y) (hb : Below w.heap.size w w') : RN w' w'.heap.size V x y := VN.st h hb
theorem gtz {w : World} {n g : Nat} {l : List Value} (_ : SB w g l) (h : n + 2 < g) : n + 2 < g := h
/-- a number is 0 -/
def zeroB (r i : Rw) : Bool := decide (r.a.length = 0) && decide (i.a.length = 0)
theorem zeroB_q {x y : Rat} : zeroB (rwq x) (rwq y) = decide (x = 0 ∧ y = 0) := by
  have h : ∀ q : Rat, decide ((digs (qt q)).length = 0) = decide (q = 0) := fun q => decide_eq_decide.2 ⟨fun h => qt_zero.1 (digs_len0.1 h), fun h => digs_len0.2 (qt_zero.2 h)⟩
  unfold zeroB rwq
  dsimp only
  rw [h, h, Bool.decide_and]
theorem nB_qq0 {p q : Rat} (h1 : qw p ≤ 512) (h2 : qw q ≤ 512) : nB (rwq p) (rwq q) = true := nB_qq h1 h2


set_option maxHeartbeats 4000000 in
theorem zero_any (V : Value) (r i : Rw) (w : World) (hV : VN w w.heap.size V r i) :
    Calls Try.prog 46 #[V] w fun e w' => e = .returned (.bool (zeroB r i)) ∧ Below w.heap.size w w' := by
  obtain ⟨s1, a1, b1⟩ := r
  obtain ⟨s2, a2, b2⟩ := i
  obtain ⟨A1, c1, D1, d1, A2, c2, D2, d2, rfl, p1, p2, p3, p4⟩ := hV
  dsimp only [zeroB] at p1 p2 p3 p4 ⊢
  have sg := SB.new w [.bool s1, .slice A1 a1.length c1, .slice D1 b1.length d1, .bool s2, .slice A2 a2.length c2, .slice D2 b2.length d2] 27
  have B1 := bal w (.cells #[.bool s1, .slice A1 a1.length c1, .slice D1 b1.length d1, .bool s2, .slice A2 a2.length c2, .slice D2 b2.length d2] 27)
  have m0 := sg.cell 1
  have m1 := sg.cell 4
  generalize hn : a1.length = n at *
  generalize hm : a2.length = m at *
  clear hn hm p1 p2 p3 p4 sg
  go_enter Try.func46, Try.ntmps46
  by_cases h1 : n = 0
  · subst h1
    by_cases h2 : m = 0
    · subst h2
      go_wp2_with fail
      go_ret
      exact ⟨by simp, B1⟩
    · have h3 : ((m : Int) == 0) = false := by simpa using h2
      go_wp2_with fail
      go_ret
      exact ⟨by simp, B1⟩
  · have h3 : ((n : Int) == 0) = false := by simpa using h1
    go_wp2_with fail
    go_ret
    exact ⟨by simp [h1], B1⟩


end Go.Proofs.Ytabcnpcfknlmlaa
namespace Go.Proofs.Ytabcnpcfknlmlaa
open Go.RowKit


end Go.Proofs.Ytabcnpcfknlmlaa
namespace Go.Proofs.Ytabcnpcfknlmlaa
open Go.RowKit

/-- the rational number that a raw fraction is -/
def qv (r : Rw) : Rat := ratN r.s (val r.a) (val r.b)
theorem qv_rwq (q : Rat) : qv (rwq q) = q := by unfold qv rwq; dsimp only; rw [val_digs, val_digs, q_self]
theorem rw_rat {r : Rw} (h : rsB r.s r.a r.b = true) : ∃ q, r = rwq q ∧ qw q ≤ 512 := by
  obtain ⟨s, a, b⟩ := r
  obtain ⟨q, rfl, rfl, rfl, hq⟩ := rsB_rat h
  exact ⟨q, rfl, hq⟩
theorem nB_rat {r i : Rw} (h : nB r i = true) : ∃ x y, r = rwq x ∧ i = rwq y ∧ qw x ≤ 512 ∧ qw y ≤ 512 := by
  unfold nB at h
  rw [Bool.and_eq_true] at h
  obtain ⟨x, e1, h1⟩ := rw_rat h.1
  obtain ⟨y, e2, h2⟩ := rw_rat h.2
  exact ⟨x, y, e1, e2, h1, h2⟩
theorem nB_rwq {x y : Rat} (h1 : qw x ≤ 512) (h2 : qw y ≤ 512) : nB (rwq x) (rwq y) = true := nB_qq h1 h2
theorem rwq_inj {p q : Rat} (h : rwq p = rwq q) : p = q := by rw [← qv_rwq p, h, qv_rwq]
theorem VN.rn {w : World} {B : Nat} {V : Value} {x y : Rat} (h : VN w B V (rwq x) (rwq y)) : RN w B V x y := h

def qaddA (r i r' i' : Rw) : Rw × Rw × Int := if nB r i = true ∧ nB r' i' = true then fitQ (qv r + qv r') (qv i + qv i') else (rw0, rw0, 2)
def qsubA (r i r' i' : Rw) : Rw × Rw × Int := if nB r i = true ∧ nB r' i' = true then fitQ (qv r + -qv r') (qv i + -qv i') else (rw0, rw0, 2)
def qmulA (r i r' i' : Rw) : Rw × Rw × Int := if nB r i = true ∧ nB r' i' = true then fitQ (qv r * qv r' + -(qv i * qv i')) (qv r * qv i' + qv i * qv r') else (rw0, rw0, 2)
/-- what a number is divided by: multiplied with its inverse -/
def divQ (x y u v : Rat) : Rw × Rw × Int := fitQ (x * (u * (u * u + v * v)⁻¹) + -(y * (-v * (u * u + v * v)⁻¹))) (x * (-v * (u * u + v * v)⁻¹) + y * (u * (u * u + v * v)⁻¹))
def qdivA (r i r' i' : Rw) : Rw × Rw × Int := if nB r i = true ∧ nB r' i' = true then (if qv r' = 0 ∧ qv i' = 0 then (rw0, rw0, 3) else divQ (qv r) (qv i) (qv r') (qv i')) else (rw0, rw0, 2)

variable {V U : Value} {r i r' i' : Rw} {w : World}
theorem esub_any (hV : VN w w.heap.size V r i) (hU : VN w w.heap.size U r' i') : Calls Try.prog 22 #[V, U] w (RetNE w (qsubA r i r' i')) := by
  unfold qsubA
  by_cases h : nB r i = true ∧ nB r' i' = true
  · rw [if_pos h]
    obtain ⟨x, y, rfl, rfl, h1, h2⟩ := nB_rat h.1
    obtain ⟨u, v, rfl, rfl, h3, h4⟩ := nB_rat h.2
    rw [qv_rwq, qv_rwq, qv_rwq, qv_rwq]
    exact esub_ok V U x y u v w hV hU h1 h2 h3 h4
  · rw [if_neg h]
    exact esub_bad V U r i r' i' w hV hU h
end Go.Proofs.Ytabcnpcfknlmlaa
namespace Go.Proofs.Ytabcnpcfknlmlaa
open Go.RowKit

/-- what a region keeps: two structs -/
def T2 (w : World) (b : Nat) (l1 l2 : List Value) (w' : World) : Prop := SB w' b l1 ∧ SB w' (b + 1) l2 ∧ Below b w w'
theorem gt1 {w : World} {n g : Nat} {l : List Value} (_ : SB w g l) (h : n + 1 < g) : n + 1 < g := h
section
variable {w w1 w2 : World} {b g : Nat} {l1 l2 : List Value}
theorem T2.nx (h : T2 w b l1 l2 w1) (hb : Below w1.heap.size w1 w2) : T2 w b l1 l2 w2 :=
  ⟨h.1.nx hb, h.2.1.nx hb, h.2.2.trans (hb.mono (by have := h.1.2; omega))⟩
theorem T2.dr (h : T2 w b l1 l2 w1) : T2 w b l1 l2 w1.drew := ⟨h.1, h.2.1, bdN h.2.2 1⟩
theorem T2.wr (h : T2 w b l1 l2 w1) (hg : b + 1 < g) (x y z : Value) : T2 w b l1 l2 (Go.Proofs.Ytabcnpcfknlmlaa.wr3 w1 g x y z) :=
  ⟨h.1.wr3 (by omega) x y z, h.2.1.wr3 (by omega) x y z, wr3_below h.2.2 (by omega) x y z⟩
theorem T2.re {o o' : Obj} (h : T2 w b l1 l2 (w1.alloc o)) (hg : b + 1 < w1.heap.size) : T2 w b l1 l2 (w1.alloc o') := by
  have e : ∀ (q : Obj) (k : Nat), k < w1.heap.size → (w1.alloc q).heap[k]? = w1.heap[k]? := fun q k hk => (bal w1 q).block k hk
  have hc : ∀ (p : Addr), p.block < w1.heap.size → (w1.alloc o').cell? p = (w1.alloc o).cell? p := fun p hp => ((bal w1 o').cell hp).trans ((bal w1 o).cell hp).symm
  have hf : ∀ (p : Addr), p.block < w1.heap.size → (w1.alloc o').frozen? p = (w1.alloc o).frozen? p := fun p hp => ((bal w1 o').frozen hp).trans ((bal w1 o).frozen hp).symm
  have hs : ∀ (k : Nat) (vs : List Value), k < w1.heap.size → SB (w1.alloc o) k vs → SB (w1.alloc o') k vs := fun k vs hk h =>
    ⟨fun i v hv => ⟨(hc ⟨k, i, none⟩ hk).trans (h.1 i v hv).1, (hf ⟨k, i, none⟩ hk).trans (h.1 i v hv).2⟩, by simp; omega⟩
  refine ⟨hs _ _ (by omega) h.1, hs _ _ hg h.2.1, ?_⟩
  have h3 := h.2.2
  exact ⟨h3.os, h3.tape, h3.output, by have := h3.size; simpa using this, fun k hk => by
    rw [e o' k (by omega), ← e o k (by omega)]; exact h3.block k hk⟩
theorem T2.new (w : World) (l1 l2 : List Value) (t1 t2 : TypeId) : T2 w w.heap.size l1 l2 ((w.alloc (.cells l1.toArray t1)).alloc (.cells l2.toArray t2)) := by
  have s1 := SB.new w l1 t1
  have s2 := SB.new (w.alloc (.cells l1.toArray t1)) l2 t2
  rw [show (w.alloc (.cells l1.toArray t1)).heap.size = w.heap.size + 1 by simp] at s2
  have B1 := bal w (.cells l1.toArray t1)
  have B2 := bal (w.alloc (.cells l1.toArray t1)) (.cells l2.toArray t2)
  exact ⟨s1.nx B2, s2, bt B1 B2⟩
end


set_option maxRecDepth 100000 in
set_option maxHeartbeats 16000000 in
theorem eorder_any (V U : Value) (x y : Rat) (w : World) (hx : RQ w w.heap.size V x) (hy : RQ w w.heap.size U y) (hb' : qw x + qw y ≤ 14000) :
    Calls Try.prog 55 #[V, U] w fun e w' => e = .returned (.int .i64 (cmpQ x y)) ∧ Below w.heap.size w w' := by
  obtain ⟨A1, c1, D1, d1, rfl, r1, r2⟩ := hx
  obtain ⟨A2, c2, D2, d2, rfl, r3, r4⟩ := hy
  have hx : RQ w w.heap.size (.agg #[.bool (qn x), .slice A1 (digs (qt x)).length c1, .slice D1 (digs (qd x)).length d1]) x := ⟨A1, c1, D1, d1, rfl, r1, r2⟩
  have k0 := T2.new w [.bool (qn x), .slice A1 (digs (qt x)).length c1, .slice D1 (digs (qd x)).length d1] [.bool (qn y), .slice A2 (digs (qt y)).length c2, .slice D2 (digs (qd y)).length d2] 25 25
  have hb : qw x + qw (-y) ≤ 14000 := by rw [qw_neg]; exact hb'
  have conjS : ∀ w', T2 w w.heap.size [.bool (qn x), .slice A1 (digs (qt x)).length c1, .slice D1 (digs (qd x)).length d1] [.bool (qn y), .slice A2 (digs (qt y)).length c2, .slice D2 (digs (qd y)).length d2] w' → w'.cell? ⟨w.heap.size, 0, none⟩ = some (.bool (qn x)) ∧ w'.cell? ⟨w.heap.size, 1, none⟩ = some (.slice A1 (digs (qt x)).length c1) ∧ w'.cell? ⟨w.heap.size, 2, none⟩ = some (.slice D1 (digs (qd x)).length d1) ∧ w'.cell? ⟨w.heap.size + 1, 0, none⟩ = some (.bool (qn y)) ∧ w'.cell? ⟨w.heap.size + 1, 1, none⟩ = some (.slice A2 (digs (qt y)).length c2) ∧ w'.cell? ⟨w.heap.size + 1, 2, none⟩ = some (.slice D2 (digs (qd y)).length d2) ∧ T2 w w.heap.size [.bool (qn x), .slice A1 (digs (qt x)).length c1, .slice D1 (digs (qd x)).length d1] [.bool (qn y), .slice A2 (digs (qt y)).length c2, .slice D2 (digs (qd y)).length d2] w' := fun w' h => ⟨h.1.cell 0, h.1.cell 1, h.1.cell 2, h.2.1.cell 0, h.2.1.cell 1, h.2.1.cell 2, h⟩
  obtain ⟨z, hz⟩ : ∃ z, Hid (cmpQ x y = z) := ⟨_, rfl⟩
  rw [hz.out]
  go_enter Try.func55, Try.ntmps55
  obtain ⟨W0, hW0⟩ : ∃ W0, W0 = (w.alloc (.cells #[.bool (qn x), .slice A1 (digs (qt x)).length c1, .slice D1 (digs (qd x)).length d1] 25)).alloc (.cells #[.bool (qn y), .slice A2 (digs (qt y)).length c2, .slice D2 (digs (qd y)).length d2] 25) := ⟨_, rfl⟩
  go_wp2_with fail
  rw [← hW0] at k0 ⊢
  clear hW0
  have z00 := k0.2.1.2
  go_upto_region 1 with fail
  go_cut [5] (fun s5 wx => ∃ (g : Nat) (A : Option Addr) (c : Nat) (D : Option Addr) (d : Nat), s5 = .pointer (some ⟨g, 0, none⟩) ∧ SB wx g [.bool (qn (x + -y)), .slice A (digs (qt (x + -y))).length c, .slice D (digs (qd (x + -y))).length d] ∧ Below w.heap.size w wx)
  case first =>
    have k0d := k0.dr
    have k0s := And.intro (k0d.1.cell 0) (And.intro (k0d.1.cell 1) (And.intro (k0d.1.cell 2) (And.intro (k0d.2.1.cell 0) (And.intro (k0d.2.1.cell 1) (And.intro (k0d.2.1.cell 2) (k0d))))))
    go_region_held3 (fun w' => w'.cell? ⟨w.heap.size, 0, none⟩ = some (.bool (qn x)) ∧ w'.cell? ⟨w.heap.size, 1, none⟩ = some (.slice A1 (digs (qt x)).length c1) ∧ w'.cell? ⟨w.heap.size, 2, none⟩ = some (.slice D1 (digs (qd x)).length d1) ∧ w'.cell? ⟨w.heap.size + 1, 0, none⟩ = some (.bool (qn y)) ∧ w'.cell? ⟨w.heap.size + 1, 1, none⟩ = some (.slice A2 (digs (qt y)).length c2) ∧ w'.cell? ⟨w.heap.size + 1, 2, none⟩ = some (.slice D2 (digs (qd y)).length d2) ∧ T2 w w.heap.size [.bool (qn x), .slice A1 (digs (qt x)).length c1, .slice D1 (digs (qd x)).length d1] [.bool (qn y), .slice A2 (digs (qt y)).length c2, .slice D2 (digs (qd y)).length d2] w')
      (first
        | with_reducible exact kws.out
        | with_reducible exact k0s
        | (have s1 := (by with_reducible assumption : _ ∧ _ ∧ _ ∧ _ ∧ _ ∧ _ ∧ T2 w w.heap.size [.bool (qn x), .slice A1 (digs (qt x)).length c1, .slice D1 (digs (qd x)).length d1] [.bool (qn y), .slice A2 (digs (qt y)).length c2, .slice D2 (digs (qd y)).length d2] _).2.2.2.2.2.2.nx BX; have q0_ := s1.1.cell 0; have q1_ := s1.1.cell 1; have q2_ := s1.1.cell 2; have q3_ := s1.2.1.cell 0; have q4_ := s1.2.1.cell 1; have q5_ := s1.2.1.cell 2; with_reducible exact ⟨q0_, q1_, q2_, q3_, q4_, q5_, s1⟩)
        | with_reducible exact conjS _ ((by with_reducible assumption : _ ∧ _ ∧ _ ∧ _ ∧ _ ∧ _ ∧ T2 w w.heap.size [.bool (qn x), .slice A1 (digs (qt x)).length c1, .slice D1 (digs (qd x)).length d1] [.bool (qn y), .slice A2 (digs (qt y)).length c2, .slice D2 (digs (qd y)).length d2] _).2.2.2.2.2.2.nx (bal _ _))
        | (with_reducible refine conjS _ (T2.re (by with_reducible assumption : _ ∧ _ ∧ _ ∧ _ ∧ _ ∧ _ ∧ T2 w w.heap.size [.bool (qn x), .slice A1 (digs (qt x)).length c1, .slice D1 (digs (qd x)).length d1] [.bool (qn y), .slice A2 (digs (qt y)).length c2, .slice D2 (digs (qd y)).length d2] _).2.2.2.2.2.2 ?_); assumption))
      (first
        | (go_at_call 54; have hh := (by with_reducible assumption : _ ∧ _ ∧ _ ∧ _ ∧ _ ∧ _ ∧ T2 w w.heap.size [.bool (qn x), .slice A1 (digs (qt x)).length c1, .slice D1 (digs (qd x)).length d1] [.bool (qn y), .slice A2 (digs (qt y)).length c2, .slice D2 (digs (qd y)).length d2] _).2.2.2.2.2.2; refine (minus_any y A2 D2 c2 d2 _).mono ?_; rintro e w12 ⟨rfl, BX⟩; have B12 := BX; have z12 := (hh.nx BX).2.1.2; (first | (have sg := sg.nx BX; have g0 := sg.cell 0; have g1 := sg.cell 1; have g2 := sg.cell 2; have h0 := sg.frozen 0; have h1 := sg.frozen 1; have h2 := sg.frozen 2) | (have sg := (SB.new _ [.bool false, .slice none 0 0, .slice none 0 0] 25).nx BX; have g0 := sg.cell 0; have g1 := sg.cell 1; have g2 := sg.cell 2; have h0 := sg.frozen 0; have h1 := sg.frozen 1; have h2 := sg.frozen 2) | (have sg := ((SB.new _ [.bool false, .slice none 0 0, .slice none 0 0] 25).nx (Below.drew (Below.refl _ _))).nx BX; have g0 := sg.cell 0; have g1 := sg.cell 1; have g2 := sg.cell 2; have h0 := sg.frozen 0; have h1 := sg.frozen 1; have h2 := sg.frozen 2) | skip))
        | ((first | have gl := sg.2 | skip); go_at_call 53; have hh := (by with_reducible assumption : _ ∧ _ ∧ _ ∧ _ ∧ _ ∧ _ ∧ T2 w w.heap.size [.bool (qn x), .slice A1 (digs (qt x)).length c1, .slice D1 (digs (qd x)).length d1] [.bool (qn y), .slice A2 (digs (qt y)).length c2, .slice D2 (digs (qd y)).length d2] _).2.2.2.2.2.2; refine (sum_any _ _ x (-y) _ (hx.st hh.2.2) ⟨A2, c2, D2, d2, rfl, by rw [q_neg_t]; exact st r3 hh.2.2, by rw [q_neg_d]; exact st r4 hh.2.2⟩ hb).mono ?_; rintro e w16 ⟨A16, c16, D16, d16, rfl, O16, P16, BX⟩; have B16 := BX; have z16 := (hh.nx BX).2.1.2; have kk := hh.nx BX; (first | (have sg := sg.nx BX; have g0 := sg.cell 0; have g1 := sg.cell 1; have g2 := sg.cell 2; have h0 := sg.frozen 0; have h1 := sg.frozen 1; have h2 := sg.frozen 2) | (have sg := (SB.new _ [.bool false, .slice none 0 0, .slice none 0 0] 25).nx BX; have g0 := sg.cell 0; have g1 := sg.cell 1; have g2 := sg.cell 2; have h0 := sg.frozen 0; have h1 := sg.frozen 1; have h2 := sg.frozen 2) | (have sg := ((SB.new _ [.bool false, .slice none 0 0, .slice none 0 0] 25).nx (Below.drew (Below.refl _ _))).nx BX; have g0 := sg.cell 0; have g1 := sg.cell 1; have g2 := sg.cell 2; have h0 := sg.frozen 0; have h1 := sg.frozen 1; have h2 := sg.frozen 2) | skip); (first | (have gz := gt1 (n := w.heap.size) sg (by first | assumption | (simp; omega)); have kw := Lib.hid (T2.wr kk gz (.bool (qn (x + -y))) (.slice A16 (digs (qt (x + -y))).length c16) (.slice D16 (digs (qd (x + -y))).length d16)); have kws := Lib.hid (conjS _ kw.out)) | skip)))
    all_goals
      go_wp2_with fail
      go_meet
      first
        | exact ⟨_, A16, c16, D16, d16, rfl, SB.new w16 _ _, (kk.nx (bal _ _)).2.2⟩
        | exact ⟨_, A16, c16, D16, d16, rfl, SB.put3 sg _ _ _, kw.out.2.2⟩
  case rest =>
    obtain ⟨g, A, c, D, d, rfl, sg, BZ⟩ := hcut
    have hz := hz.out
    unfold cmpQ at hz
    have g0 := sg.cell 0
    have g1 := sg.cell 1
    have ht : (digs (qt (x + -y))).length = 0 ↔ qt (x + -y) = 0 := digs_len0
    generalize qt (x + -y) = t at *
    generalize (digs t).length = n at *
    clear k0 sg hx hb hb' conjS r1 r2 r3 r4
    generalize qn (x + -y) = s at *
    cases s with
    | true =>
      rw [if_pos rfl] at hz
      subst hz
      go_wp2_with fail
      go_ret
      exact ⟨rfl, BZ⟩
    | false =>
      rw [if_neg (by simp)] at hz
      by_cases h0 : n = 0
      · rw [if_neg (by have := ht.1 h0; omega)] at hz
        subst hz
        subst h0
        go_wp2_with fail
        go_ret
        exact ⟨rfl, BZ⟩
      · rw [if_pos (by omega)] at hz
        subst hz
        have h1 : decide (0 < (n : Int)) = true := by simp; omega
        have h2 : (0 : Int) < (n : Int) := by omega
        go_wp2_with fail
        go_ret
        exact ⟨rfl, BZ⟩


def qcmpA (r i r' i' : Rw) : Int × Int := if chkN2 true r i r' i' = 0 then (cmpQ (qv r) (qv r'), 0) else (0, chkN2 true r i r' i')
set_option maxRecDepth 100000 in
set_option maxHeartbeats 4000000 in
theorem ecmp_bad (V U : Value) (r i r' i' : Rw) (w : World) (hV : VN w w.heap.size V r i) (hU : VN w w.heap.size U r' i') (hb : ¬ chkN2 true r i r' i' = 0) :
    Calls Try.prog 23 #[V, U] w fun e w' => e = .returned (.tuple #[.int .i64 0, .int .i64 (chkN2 true r i r' i')]) ∧ Below w.heap.size w w' := by
  obtain ⟨s1, a1, b1⟩ := r
  obtain ⟨s2, a2, b2⟩ := i
  obtain ⟨t1, g1, h1⟩ := r'
  obtain ⟨t2, g2, h2⟩ := i'
  obtain ⟨A1, c1, D1, d1, A2, c2, D2, d2, rfl, p1, p2, p3, p4⟩ := hV
  obtain ⟨E1, e1, F1, f1, E2, e2, F2, f2, rfl, p5, p6, p7, p8⟩ := hU
  dsimp only at p1 p2 p3 p4 p5 p6 p7 p8 ⊢
  have k0 := T2.new w [.bool s1, .slice A1 a1.length c1, .slice D1 b1.length d1, .bool s2, .slice A2 a2.length c2, .slice D2 b2.length d2] [.bool t1, .slice E1 g1.length e1, .slice F1 h1.length f1, .bool t2, .slice E2 g2.length e2, .slice F2 h2.length f2] 27 27
  have C0 := k0.2.2
  have z3 : ((w.alloc (.cells #[.bool s1, .slice A1 a1.length c1, .slice D1 b1.length d1, .bool s2, .slice A2 a2.length c2, .slice D2 b2.length d2] 27)).alloc (.cells #[.bool t1, .slice E1 g1.length e1, .slice F1 h1.length f1, .bool t2, .slice E2 g2.length e2, .slice F2 h2.length f2] 27)).heap.size = w.heap.size + 2 := by simp
  have Bs := bal ((w.alloc (.cells #[.bool s1, .slice A1 a1.length c1, .slice D1 b1.length d1, .bool s2, .slice A2 a2.length c2, .slice D2 b2.length d2] 27)).alloc (.cells #[.bool t1, .slice E1 g1.length e1, .slice F1 h1.length f1, .bool t2, .slice E2 g2.length e2, .slice F2 h2.length f2] 27)) (.cells #[.bool s1, .slice A1 a1.length c1, .slice D1 b1.length d1, .bool s2, .slice A2 a2.length c2, .slice D2 b2.length d2, .bool t1, .slice E1 g1.length e1, .slice F1 h1.length f1, .bool t2, .slice E2 g2.length e2, .slice F2 h2.length f2] 27)
  have sg := SB.new ((w.alloc (.cells #[.bool s1, .slice A1 a1.length c1, .slice D1 b1.length d1, .bool s2, .slice A2 a2.length c2, .slice D2 b2.length d2] 27)).alloc (.cells #[.bool t1, .slice E1 g1.length e1, .slice F1 h1.length f1, .bool t2, .slice E2 g2.length e2, .slice F2 h2.length f2] 27)) [.bool s1, .slice A1 a1.length c1, .slice D1 b1.length d1, .bool s2, .slice A2 a2.length c2, .slice D2 b2.length d2, .bool t1, .slice E1 g1.length e1, .slice F1 h1.length f1, .bool t2, .slice E2 g2.length e2, .slice F2 h2.length f2] 27
  rw [z3] at sg
  have C1 := bt C0 Bs
  have k1 := k0.nx Bs
  have hck := check2x_any true (w.heap.size + 2) _ _ _ _ _ _ _ _ _ _ _ _ _ _ _ _ _ _ _ _ _ _ _ _ _ _ _ _ _ sg (st p1 C1) (st p2 C1) (st p3 C1) (st p4 C1) (st p5 C1) (st p6 C1) (st p7 C1) (st p8 C1)
  generalize chkN2 true ⟨s1, a1, b1⟩ ⟨s2, a2, b2⟩ ⟨t1, g1, h1⟩ ⟨t2, g2, h2⟩ = k at *
  have hb2 : (k == 0) = false := beq_eq_false_iff_ne.2 hb
  clear sg k0 p1 p2 p3 p4 p5 p6 p7 p8
  go_enter Try.func23, Try.ntmps23
  go_wp2_with fail
  refine hck.mono ?_; rintro e w3 ⟨rfl, B3⟩
  clear hck
  go_wp2_with fail
  go_ret2
  exact ⟨rfl, bt C1 B3⟩
set_option maxRecDepth 100000 in
set_option maxHeartbeats 4000000 in
theorem ecmp_ok (V U : Value) (x y u v : Rat) (w : World) (hV : RN w w.heap.size V x y) (hU : RN w w.heap.size U u v) (bx : qw x ≤ 512) (bu : qw u ≤ 512) (hz : chkN2 true (rwq x) (rwq y) (rwq u) (rwq v) = 0) :
    Calls Try.prog 23 #[V, U] w fun e w' => e = .returned (.tuple #[.int .i64 (cmpQ x u), .int .i64 0]) ∧ Below w.heap.size w w' := by
  obtain ⟨A1, c1, D1, d1, A2, c2, D2, d2, rfl, p1, p2, p3, p4⟩ := hV
  obtain ⟨E1, e1, F1, f1, E2, e2, F2, f2, rfl, p5, p6, p7, p8⟩ := hU
  simp only [rwq] at p1 p2 p3 p4 p5 p6 p7 p8 hz ⊢
  have k0 := T2.new w [.bool (qn x), .slice A1 (digs (qt x)).length c1, .slice D1 (digs (qd x)).length d1, .bool (qn y), .slice A2 (digs (qt y)).length c2, .slice D2 (digs (qd y)).length d2] [.bool (qn u), .slice E1 (digs (qt u)).length e1, .slice F1 (digs (qd u)).length f1, .bool (qn v), .slice E2 (digs (qt v)).length e2, .slice F2 (digs (qd v)).length f2] 27 27
  have C0 := k0.2.2
  have z3 : ((w.alloc (.cells #[.bool (qn x), .slice A1 (digs (qt x)).length c1, .slice D1 (digs (qd x)).length d1, .bool (qn y), .slice A2 (digs (qt y)).length c2, .slice D2 (digs (qd y)).length d2] 27)).alloc (.cells #[.bool (qn u), .slice E1 (digs (qt u)).length e1, .slice F1 (digs (qd u)).length f1, .bool (qn v), .slice E2 (digs (qt v)).length e2, .slice F2 (digs (qd v)).length f2] 27)).heap.size = w.heap.size + 2 := by simp
  have Bs := bal ((w.alloc (.cells #[.bool (qn x), .slice A1 (digs (qt x)).length c1, .slice D1 (digs (qd x)).length d1, .bool (qn y), .slice A2 (digs (qt y)).length c2, .slice D2 (digs (qd y)).length d2] 27)).alloc (.cells #[.bool (qn u), .slice E1 (digs (qt u)).length e1, .slice F1 (digs (qd u)).length f1, .bool (qn v), .slice E2 (digs (qt v)).length e2, .slice F2 (digs (qd v)).length f2] 27)) (.cells #[.bool (qn x), .slice A1 (digs (qt x)).length c1, .slice D1 (digs (qd x)).length d1, .bool (qn y), .slice A2 (digs (qt y)).length c2, .slice D2 (digs (qd y)).length d2, .bool (qn u), .slice E1 (digs (qt u)).length e1, .slice F1 (digs (qd u)).length f1, .bool (qn v), .slice E2 (digs (qt v)).length e2, .slice F2 (digs (qd v)).length f2] 27)
  have sg := SB.new ((w.alloc (.cells #[.bool (qn x), .slice A1 (digs (qt x)).length c1, .slice D1 (digs (qd x)).length d1, .bool (qn y), .slice A2 (digs (qt y)).length c2, .slice D2 (digs (qd y)).length d2] 27)).alloc (.cells #[.bool (qn u), .slice E1 (digs (qt u)).length e1, .slice F1 (digs (qd u)).length f1, .bool (qn v), .slice E2 (digs (qt v)).length e2, .slice F2 (digs (qd v)).length f2] 27)) [.bool (qn x), .slice A1 (digs (qt x)).length c1, .slice D1 (digs (qd x)).length d1, .bool (qn y), .slice A2 (digs (qt y)).length c2, .slice D2 (digs (qd y)).length d2, .bool (qn u), .slice E1 (digs (qt u)).length e1, .slice F1 (digs (qd u)).length f1, .bool (qn v), .slice E2 (digs (qt v)).length e2, .slice F2 (digs (qd v)).length f2] 27
  rw [z3] at sg
  have C1 := bt C0 Bs
  have k1 := k0.nx Bs
  have hck := check2x_any true (w.heap.size + 2) _ _ _ _ _ _ _ _ _ _ _ _ _ _ _ _ _ _ _ _ _ _ _ _ _ _ _ _ _ sg (st p1 C1) (st p2 C1) (st p3 C1) (st p4 C1) (st p5 C1) (st p6 C1) (st p7 C1) (st p8 C1)
  rw [hz] at hck
  have ho := fun V U w' h1 h2 => eorder_any V U x u w' h1 h2 (by omega)
  generalize cmpQ x u = k at *
  clear sg k0 hz bx bu p3 p4 p7 p8
  go_enter Try.func23, Try.ntmps23
  go_wp2_with fail
  refine hck.mono ?_; rintro e w3 ⟨rfl, B3⟩
  clear hck
  have k3 := k1.nx B3
  have C3 := bt C1 B3
  have i0 := k3.1.cell 0
  have i1 := k3.1.cell 1
  have i2 := k3.1.cell 2
  have j0 := k3.2.1.cell 0
  have j1 := k3.2.1.cell 1
  have j2 := k3.2.1.cell 2
  go_wp2_with fail
  refine (ho _ _ _ ⟨A1, c1, D1, d1, rfl, st p1 C3, st p2 C3⟩ ⟨E1, e1, F1, f1, rfl, st p5 C3, st p6 C3⟩).mono ?_; rintro e w4 ⟨rfl, B4⟩
  go_wp2_with fail
  go_ret2
  exact ⟨rfl, bt C3 B4⟩
theorem chkN2_zero {r i r' i' : Rw} (h : chkN2 true r i r' i' = 0) : nB r i = true ∧ nB r' i' = true ∧ i.a = [] ∧ i'.a = [] := by
  unfold chkN2 at h
  split at h
  · next hn =>
    split at h
    · cases h
    · next hq =>
      refine ⟨hn.1, hn.2, ?_, ?_⟩ <;> apply List.eq_nil_of_length_eq_zero <;> (have := not_and.1 hq rfl; omega)
  · cases h
theorem ecmp_any {V U : Value} {r i r' i' : Rw} {w : World} (hV : VN w w.heap.size V r i) (hU : VN w w.heap.size U r' i') :
    Calls Try.prog 23 #[V, U] w fun e w' => e = .returned (.tuple #[.int .i64 (qcmpA r i r' i').1, .int .i64 (qcmpA r i r' i').2]) ∧ Below w.heap.size w w' := by
  unfold qcmpA
  by_cases h : chkN2 true r i r' i' = 0
  · rw [if_pos h]
    obtain ⟨n1, n2, _, _⟩ := chkN2_zero h
    obtain ⟨x, y, rfl, rfl, h1, h2⟩ := nB_rat n1
    obtain ⟨u, v, rfl, rfl, h3, h4⟩ := nB_rat n2
    rw [qv_rwq, qv_rwq]
    exact ecmp_ok V U x y u v w hV hU h1 h3 h
  · rw [if_neg h]
    exact ecmp_bad V U r i r' i' w hV hU h

end Go.Proofs.Ytabcnpcfknlmlaa
