/- Walk: the reference's DivMod, the main case. -/
import Derived.Test.YtdkejndagicgjaaEzA
import Derived.Test.YtdkejndagicgjaaEzX
import Derived.Test.YtdkejndagicgjaaGO
namespace Go.Proofs.Ytdkejndagicgjaa
open Go.RowKit

/-- two fractions in blocks of their own -/
def D6 (w wc : World) (b : Nat) (l1 l2 : List Value) (g : Nat) (l3 : List Value) (h : Nat) (l4 : List Value) (w' : World) : Prop := D5 w wc b l1 l2 g l3 w' ∧ SB w' h l4
section
variable {w w1 w2 wc : World} {b g g2 h n : Nat} {l1 l2 l3 l4 : List Value}
/-- number i comes up next -/
def USome (P : Program) (md : Region.Mode) (ops : Array Oper) (Q : Exit → Act → World → Prop) (S : World → Prop) (n f : Nat) (l : Array Bool) (a : Act) (w : World) (i : Nat) : Prop :=
  wpOp P ops Q i (fun a' w' => (i = n ∨ S w') ∧ AnyU P md ops Q S n f (l.setIfInBounds i true) a' w') a w
theorem USome.mk {P : Program} {md : Region.Mode} {ops : Array Oper} {Q : Exit → Act → World → Prop} {S : World → Prop} {n f : Nat} {l : Array Bool} {a : Act} {w : World} {i : Nat} {o : Oper} (ho : ops[i]? = some o)
    (h : ∀ K : Act → World → Prop, Shut (∀ a w, (i = n ∨ S w) → ((i = n ∨ S w) → AnyU P md ops Q S n f (l.setIfInBounds i true) a w) → K a w) → if Region.wanted o (yielded ops a.tmps) = true then Oper.wp P o a w K Q else K (a.put o.dst undef) w) : USome P md ops Q S n f l a w i :=
  wpOp_step ho (fun K hK => h K (fun a w hS hW => hK a w ⟨hS, hW hS⟩))
theorem AnyU.two {P : Program} {md : Region.Mode} {ops : Array Oper} {Q : Exit → Act → World → Prop} {S : World → Prop} {n f : Nat} {l : Array Bool} {a : Act} {w : World} {i j : Nat} (hr : Region.ready md ops l = [i, j])
    (h1 : USome P md ops Q S n f l a w i) (h2 : USome P md ops Q S n f l a w j) : AnyU P md ops Q S n (f + 1) l a w :=
  ⟨fun h0 => (by rw [h0] at hr; cases hr), fun k hk => by
    rw [hr] at hk
    simp only [List.mem_cons, List.not_mem_nil, or_false] at hk
    rcases hk with rfl | rfl
    · exact h1
    · exact h2⟩
theorem AnyU.three {P : Program} {md : Region.Mode} {ops : Array Oper} {Q : Exit → Act → World → Prop} {S : World → Prop} {n f : Nat} {l : Array Bool} {a : Act} {w : World} {i j m : Nat} (hr : Region.ready md ops l = [i, j, m])
    (h1 : USome P md ops Q S n f l a w i) (h2 : USome P md ops Q S n f l a w j) (h3 : USome P md ops Q S n f l a w m) : AnyU P md ops Q S n (f + 1) l a w :=
  ⟨fun h0 => (by rw [h0] at hr; cases hr), fun k hk => by
    rw [hr] at hk
    simp only [List.mem_cons, List.not_mem_nil, or_false] at hk
    rcases hk with rfl | rfl | rfl
    · exact h1
    · exact h2
    · exact h3⟩
theorem D6.nx (k : D6 w wc b l1 l2 g l3 h l4 w1) (hb : Below w1.heap.size w1 w2) : D6 w wc b l1 l2 g l3 h l4 w2 := ⟨k.1.nx hb, k.2.nx hb⟩
theorem D6.dr (k : D6 w wc b l1 l2 g l3 h l4 w1) : D6 w wc b l1 l2 g l3 h l4 w1.drew := k.nx (Below.drew (Below.refl _ _))
theorem D6.wr3 (k : D6 w wc b l1 l2 g l3 h l4 w1) (hg : (b + 3 < g2 ∧ g < g2 ∧ wc.heap.size ≤ g2) ∧ h < g2) (x y z : Value) : D6 w wc b l1 l2 g l3 h l4 (Go.Proofs.Ytdkejndagicgjaa.wr3 w1 g2 x y z) :=
  ⟨k.1.wr3 hg.1 x y z, k.2.wr3 (by omega) x y z⟩
theorem D6.re {o o' : Obj} (k : D6 w wc b l1 l2 g l3 h l4 (w1.alloc o)) (hg : (b + 3 < w1.heap.size ∧ g < w1.heap.size ∧ wc.heap.size ≤ w1.heap.size) ∧ h < w1.heap.size) : D6 w wc b l1 l2 g l3 h l4 (w1.alloc o') :=
  ⟨k.1.re hg.1, sbre hg.2 k.2⟩
theorem OW.far6 {base c : Nat} {A : Option Addr} {l : List Nat} (h : OW w base A c l) (hn : ∀ b, A = some ⟨b, 0, none⟩ → b ≠ g) (x y z x' y' z' : Value) : OW (Go.Proofs.Ytdkejndagicgjaa.wr6 w g x y z x' y' z') base A c l :=
  (((h.far3 hn x y z).far (p := ⟨g, 3, none⟩) hn x').far (p := ⟨g, 4, none⟩) hn y').far (p := ⟨g, 5, none⟩) hn z'
theorem rwq_zero : rwq 0 = ⟨false, [], [1]⟩ := by rw [← digs_one1, ← digs_zero]; rfl
theorem gte {l : List Value} (_ : SB w g2 l) (k : (b + 3 < g2 ∧ g < g2 ∧ n ≤ g2) ∧ h < g2) : (b + 3 < g2 ∧ g < g2 ∧ n ≤ g2) ∧ h < g2 := k
end


set_option maxRecDepth 100000 in
set_option maxHeartbeats 16000000 in
theorem rdm_ok (V U : Value) (x y u v : Rat) (w : World) (hV : RN w w.heap.size V x y) (hU : RN w w.heap.size U u v) (bx : qw x ≤ 512) (by_ : qw y ≤ 512) (bu : qw u ≤ 512) (bv : qw v ≤ 512) (hy : (rwq y).a = []) (hv : (rwq v).a = []) (h0 : ¬ (u = 0 ∧ v = 0)) (hu0 : u ≠ 0)
    (hLd : ∀ V w', RQ w' w'.heap.size V (x * (ab u)⁻¹) → qw (x * (ab u)⁻¹) ≤ 14000 → Calls Try.prog 56 #[V] w' (RetR w' ((flr (x * (ab u)⁻¹) : Int) : Rat))) :
    Calls Try.prog 21 #[V, U] w (RetNN w (dmG (fitQ (if qn u = true then -((flr (x * (ab u)⁻¹) : Int) : Rat) else ((flr (x * (ab u)⁻¹) : Int) : Rat)) 0) (fitQ (x + -(((flr (x * (ab u)⁻¹) : Int) : Rat) * ab u)) 0))) := by
  have hs1 := fun V w' h => resound_any V (rwq x) (rwq y) w' h
  have hs2 := fun V w' h => resound_any V (rwq u) (rwq v) w' h
  rw [nB_rwq bx by_] at hs1
  rw [nB_rwq bu bv] at hs2
  have hr1 := fun V w' h => rreal_any V (rwq x) (rwq y) w' h
  have hr2 := fun V w' h => rreal_any V (rwq u) (rwq v) w' h
  rw [hy, decide_eq_true (show ([] : List Nat).length = 0 from rfl)] at hr1
  rw [hv, decide_eq_true (show ([] : List Nat).length = 0 from rfl)] at hr2
  have hZ := fun V w' h => risZero_any V (rwq u) (rwq v) w' h
  rw [zeroB_q, decide_eq_false h0] at hZ
  obtain ⟨A1, c1, D1, d1, A2, c2, D2, d2, rfl, p1, p2, p3, p4⟩ := hV
  obtain ⟨E1, e1, F1, f1, E2, e2, F2, f2, rfl, p5, p6, p7, p8⟩ := hU
  have Ha : VN w w.heap.size (.agg #[.bool (qn x), .slice A1 (digs (qt x)).length c1, .slice D1 (digs (qd x)).length d1, .bool (qn y), .slice A2 (digs (qt y)).length c2, .slice D2 (digs (qd y)).length d2]) (rwq x) (rwq y) := ⟨A1, c1, D1, d1, A2, c2, D2, d2, rfl, p1, p2, p3, p4⟩
  have Hb : VN w w.heap.size (.agg #[.bool (qn u), .slice E1 (digs (qt u)).length e1, .slice F1 (digs (qd u)).length f1, .bool (qn v), .slice E2 (digs (qt v)).length e2, .slice F2 (digs (qd v)).length f2]) (rwq u) (rwq v) := ⟨E1, e1, F1, f1, E2, e2, F2, f2, rfl, p5, p6, p7, p8⟩
  have k0 := D4.new w [.bool (qn x), .slice A1 (digs (qt x)).length c1, .slice D1 (digs (qd x)).length d1, .bool (qn y), .slice A2 (digs (qt y)).length c2, .slice D2 (digs (qd y)).length d2] [.bool (qn u), .slice E1 (digs (qt u)).length e1, .slice F1 (digs (qd u)).length f1, .bool (qn v), .slice E2 (digs (qt v)).length e2, .slice F2 (digs (qd v)).length f2] [.bool false, .slice none 0 0, .slice none 0 0, .bool false, .slice none 0 0, .slice none 0 0] [.bool false, .slice none 0 0, .slice none 0 0, .bool false, .slice none 0 0, .slice none 0 0] 26 26 26 26
  have C0 := k0.2.2.2.2
  simp only [rwq] at p1 p2 p3 p4 p5 p6 p7 p8
  have hne : qt (ab u) ≠ 0 := by rw [ab_t]; exact fun h => hu0 (qt_zero.1 h)
  have q1 := qw_inv (ab_n u) hne
  have q2 := qw_ab u
  have q3 := qw_mul x (ab u)⁻¹
  have q4 := qw_flr (x * (ab u)⁻¹)
  have b1 : qw x + qw (ab u)⁻¹ ≤ 14000 := by omega
  have hx : RQ w w.heap.size (.agg #[.bool (qn x), .slice A1 (digs (qt x)).length c1, .slice D1 (digs (qd x)).length d1]) x := ⟨A1, c1, D1, d1, rfl, p1, p2⟩
  have hub : RQ w w.heap.size (.agg #[.bool false, .slice E1 (digs (qt u)).length e1, .slice F1 (digs (qd u)).length f1]) (ab u) := ⟨E1, e1, F1, f1, by rw [ab_n, ab_t, ab_d], by rw [ab_t]; exact p5, by rw [ab_d]; exact p6⟩
  have hui : RQ w w.heap.size (.agg #[.bool false, .slice F1 (digs (qd u)).length f1, .slice E1 (digs (qt u)).length e1]) (ab u)⁻¹ := by
    have h := rq_inv (q := ab u) (w := w) (B := w.heap.size) (A := E1) (c := e1) (D := F1) (d := f1) (ab_n u) hne (by rw [ab_t]; exact p5) (by rw [ab_d]; exact p6)
    rw [ab_t, ab_d] at h
    exact h
  have hPr := fun V U w' h1 h2 => rproduct_any V U x (ab u)⁻¹ w' h1 h2 b1
  have hL := fun V w' h => hLd V w' h (by omega)
  clear hLd
  generalize ((flr (x * (ab u)⁻¹) : Int) : Rat) = n at *
  have q5 := qw_mul n (ab u)
  have hb1 : qw n + qw (ab u) ≤ 14000 := by omega
  have hb2 : qw x + qw (-(n * ab u)) ≤ 14000 := by rw [qw_neg]; omega
  generalize (x * (ab u)⁻¹) = n0 at *
  have hP2 := fun V U w' h1 h2 => rproduct_any V U n (ab u) w' h1 h2 hb1
  have hS := fun V U w' h1 h2 => rsum_any V U x (-(n * ab u)) w' h1 h2 hb2
  obtain ⟨s, hs⟩ : ∃ s : Rat, Hid ((x + -(n * ab u)) = s) := ⟨_, rfl⟩
  rw [hs.out] at hS ⊢
  obtain ⟨q, hq⟩ : ∃ q : Rat, Hid ((if qn u = true then -n else n) = q) := ⟨_, rfl⟩
  rw [hq.out]
  have hZ0 := rzero_any
  have hlq := fun V w' h => rlarge_any V (rwq q) (rwq 0) w' h
  have hls := fun V w' h => rlarge_any V (rwq s) (rwq 0) w' h
  rw [largeB_q] at hlq hls
  rw [rwq_zero] at hlq hls
  obtain ⟨A_, hA_⟩ : ∃ A_, Hid (dmG (fitQ q 0) (fitQ s 0) = A_) := ⟨_, rfl⟩
  rw [hA_.out]
  clear q1 q2 q3 q4 q5 b1 hne hu0 bx by_ bu bv hy hv h0
  have C3_ := k0.2.2.2.2
  have i0 := k0.1.cell 0
  have i1 := k0.1.cell 1
  have i2 := k0.1.cell 2
  have i3 := k0.1.cell 3
  have i4 := k0.1.cell 4
  have i5 := k0.1.cell 5
  go_enter Try.func21, Try.ntmps21
  go_wp2_with fail
  refine (hs1 _ _ (Ha.st C3_)).mono ?_; rintro e w3 ⟨rfl, B3⟩
  have k3 := k0.nx B3
  clear i0 i1 i2 i3 i4 i5
  have C4_ := k3.2.2.2.2
  have i0 := k3.2.1.cell 0
  have i1 := k3.2.1.cell 1
  have i2 := k3.2.1.cell 2
  have i3 := k3.2.1.cell 3
  have i4 := k3.2.1.cell 4
  have i5 := k3.2.1.cell 5
  go_wp2_with fail
  refine (hs2 _ _ (Hb.st C4_)).mono ?_; rintro e w4 ⟨rfl, B4⟩
  have k4 := k3.nx B4
  clear i0 i1 i2 i3 i4 i5
  have C5_ := k4.2.2.2.2
  have i0 := k4.1.cell 0
  have i1 := k4.1.cell 1
  have i2 := k4.1.cell 2
  have i3 := k4.1.cell 3
  have i4 := k4.1.cell 4
  have i5 := k4.1.cell 5
  go_wp2_with fail
  refine (hr1 _ _ (Ha.st C5_)).mono ?_; rintro e w5 ⟨rfl, B5⟩
  have k5 := k4.nx B5
  clear i0 i1 i2 i3 i4 i5
  have C6_ := k5.2.2.2.2
  have i0 := k5.2.1.cell 0
  have i1 := k5.2.1.cell 1
  have i2 := k5.2.1.cell 2
  have i3 := k5.2.1.cell 3
  have i4 := k5.2.1.cell 4
  have i5 := k5.2.1.cell 5
  go_wp2_with fail
  refine (hr2 _ _ (Hb.st C6_)).mono ?_; rintro e w6 ⟨rfl, B6⟩
  have k6 := k5.nx B6
  clear i0 i1 i2 i3 i4 i5
  have C7_ := k6.2.2.2.2
  have i0 := k6.2.1.cell 0
  have i1 := k6.2.1.cell 1
  have i2 := k6.2.1.cell 2
  have i3 := k6.2.1.cell 3
  have i4 := k6.2.1.cell 4
  have i5 := k6.2.1.cell 5
  go_wp2_with fail
  refine (hZ _ _ (Hb.st C7_)).mono ?_; rintro e w7 ⟨rfl, B7⟩
  have k7 := k6.nx B7
  clear i0 i1 i2 i3 i4 i5
  clear hs1 hs2 hr1 hr2 hZ C3_ C4_ C5_ C6_ C7_
  have hgW := k7.2.2.2.1.2
  have j0 := k7.2.1.cell 0
  have j1 := k7.2.1.cell 1
  have j2 := k7.2.1.cell 2
  have B7a := bal w7 (.cells #[.bool false, .slice E1 (digs (qt u)).length e1, .slice F1 (digs (qd u)).length f1] 24)
  have s7 := SB.new w7 [.bool false, .slice E1 (digs (qt u)).length e1, .slice F1 (digs (qd u)).length f1] 24
  have k7 := k7.nx B7a
  have i0 := k7.1.cell 0
  have i1 := k7.1.cell 1
  have i2 := k7.1.cell 2
  have m0 := s7.cell 0
  have m1 := s7.cell 1
  have m2 := s7.cell 2
  go_wp2_with fail
  refine (hPr _ _ _ (hx.st k7.2.2.2.2) (hui.st k7.2.2.2.2)).mono ?_; rintro e w8 ⟨A5, c5, M5, m5, rfl, O5, P5, B8⟩
  clear i0 i1 i2 j0 j1 j2 m0 m1 m2 hui hPr
  have k8 := k7.nx B8
  have s7 := s7.nx B8
  go_wp2_with fail
  refine (hL _ _ ⟨A5, c5, M5, m5, rfl, O5.rw, P5.rw⟩).mono ?_; rintro e w9 ⟨A8, c8, M8, m8, rfl, O8, P8, B9⟩
  clear hL O5 P5
  have hfA : ∀ b, A8 = some ⟨b, 0, none⟩ → b ≠ w9.heap.size := fun b hb => by subst hb; exact Nat.ne_of_lt O8.lt.2
  have hfM : ∀ b, M8 = some ⟨b, 0, none⟩ → b ≠ w9.heap.size := fun b hb => by subst hb; exact Nat.ne_of_lt P8.lt.2
  have hgq := s7.2
  have k9 := k8.nx B9
  have s7 := s7.nx B9
  have hg78 := s7.2
  have B10 := bal w9 (.cells #[.bool (qn n), .slice A8 (digs (qt n)).length c8, .slice M8 (digs (qd n)).length m8] 24)
  have s8 := SB.new w9 [.bool (qn n), .slice A8 (digs (qt n)).length c8, .slice M8 (digs (qd n)).length m8] 24
  have O8 := (O8.below B10 (Nat.le_refl _)).base_le hgq
  have P8 := (P8.below B10 (Nat.le_refl _)).base_le hgq
  have k10 := k9.nx B10
  have s7 := s7.nx B10
  obtain ⟨W, hW⟩ : ∃ W, W = w9.alloc (.cells #[.bool (qn n), .slice A8 (digs (qt n)).length c8, .slice M8 (digs (qd n)).length m8] 24) := ⟨_, rfl⟩
  rw [← hW] at s8 O8 P8 k10 s7
  go_upto_region 10 with fail
  rw [← hW]
  clear hW B10 B9 B8 B7a k9 k8 k7 hgq
  generalize w9.heap.size = g8 at *
  generalize w7.heap.size = g7 at *
  have HN : RQ W W.heap.size (.agg #[.bool (qn n), .slice A8 (digs (qt n)).length c8, .slice M8 (digs (qd n)).length m8]) n := ⟨A8, c8, M8, m8, rfl, O8.rw, P8.rw⟩
  have k11 : D6 w W w.heap.size [.bool (qn x), .slice A1 (digs (qt x)).length c1, .slice D1 (digs (qd x)).length d1, .bool (qn y), .slice A2 (digs (qt y)).length c2, .slice D2 (digs (qd y)).length d2] [.bool (qn u), .slice E1 (digs (qt u)).length e1, .slice F1 (digs (qd u)).length f1, .bool (qn v), .slice E2 (digs (qt v)).length e2, .slice F2 (digs (qd v)).length f2] g7 [.bool false, .slice E1 (digs (qt u)).length e1, .slice F1 (digs (qd u)).length f1] g8 [.bool (qn n), .slice A8 (digs (qt n)).length c8, .slice M8 (digs (qd n)).length m8] W := ⟨⟨k10, s7, Below.refl _ _⟩, s8⟩
  have z8 := And.intro (And.intro k11.1.1.2.2.2.1.2 (And.intro k11.1.2.1.2 (Nat.le_refl W.heap.size))) k11.2.2
  have conjS : ∀ w', D6 w W w.heap.size [.bool (qn x), .slice A1 (digs (qt x)).length c1, .slice D1 (digs (qd x)).length d1, .bool (qn y), .slice A2 (digs (qt y)).length c2, .slice D2 (digs (qd y)).length d2] [.bool (qn u), .slice E1 (digs (qt u)).length e1, .slice F1 (digs (qd u)).length f1, .bool (qn v), .slice E2 (digs (qt v)).length e2, .slice F2 (digs (qd v)).length f2] g7 [.bool false, .slice E1 (digs (qt u)).length e1, .slice F1 (digs (qd u)).length f1] g8 [.bool (qn n), .slice A8 (digs (qt n)).length c8, .slice M8 (digs (qd n)).length m8] w' → w'.cell? ⟨w.heap.size, 0, none⟩ = some (.bool (qn x)) ∧ w'.cell? ⟨w.heap.size, 1, none⟩ = some (.slice A1 (digs (qt x)).length c1) ∧ w'.cell? ⟨w.heap.size, 2, none⟩ = some (.slice D1 (digs (qd x)).length d1) ∧ w'.cell? ⟨g7, 0, none⟩ = some (.bool false) ∧ w'.cell? ⟨g7, 1, none⟩ = some (.slice E1 (digs (qt u)).length e1) ∧ w'.cell? ⟨g7, 2, none⟩ = some (.slice F1 (digs (qd u)).length f1) ∧ w'.cell? ⟨g8, 0, none⟩ = some (.bool (qn n)) ∧ w'.cell? ⟨g8, 1, none⟩ = some (.slice A8 (digs (qt n)).length c8) ∧ w'.cell? ⟨g8, 2, none⟩ = some (.slice M8 (digs (qd n)).length m8) ∧ D6 w W w.heap.size [.bool (qn x), .slice A1 (digs (qt x)).length c1, .slice D1 (digs (qd x)).length d1, .bool (qn y), .slice A2 (digs (qt y)).length c2, .slice D2 (digs (qd y)).length d2] [.bool (qn u), .slice E1 (digs (qt u)).length e1, .slice F1 (digs (qd u)).length f1, .bool (qn v), .slice E2 (digs (qt v)).length e2, .slice F2 (digs (qd v)).length f2] g7 [.bool false, .slice E1 (digs (qt u)).length e1, .slice F1 (digs (qd u)).length f1] g8 [.bool (qn n), .slice A8 (digs (qt n)).length c8, .slice M8 (digs (qd n)).length m8] w' := fun w' h => ⟨h.1.1.1.cell 0, h.1.1.1.cell 1, h.1.1.1.cell 2, h.1.2.1.cell 0, h.1.2.1.cell 1, h.1.2.1.cell 2, h.2.cell 0, h.2.cell 1, h.2.cell 2, h⟩
  clear k10 s7 s8
  go_cut [9] (fun s9 wx => ∃ (g : Nat) (A : Option Addr) (c : Nat) (M : Option Addr) (m : Nat), s9 = .pointer (some ⟨g, 0, none⟩) ∧ SB wx g [.bool (qn s), .slice A (digs (qt s)).length c, .slice M (digs (qd s)).length m] ∧ D6 w W w.heap.size [.bool (qn x), .slice A1 (digs (qt x)).length c1, .slice D1 (digs (qd x)).length d1, .bool (qn y), .slice A2 (digs (qt y)).length c2, .slice D2 (digs (qd y)).length d2] [.bool (qn u), .slice E1 (digs (qt u)).length e1, .slice F1 (digs (qd u)).length f1, .bool (qn v), .slice E2 (digs (qt v)).length e2, .slice F2 (digs (qd v)).length f2] g7 [.bool false, .slice E1 (digs (qt u)).length e1, .slice F1 (digs (qd u)).length f1] g8 [.bool (qn n), .slice A8 (digs (qt n)).length c8, .slice M8 (digs (qd n)).length m8] wx ∧ g8 < g ∧ OW wx (g8 + 1) A c (digs (qt s)) ∧ OW wx (g8 + 1) M m (digs (qd s)))
  case first =>
    have k11d := k11.dr
    have k11s := And.intro (k11d.1.1.1.cell 0) (And.intro (k11d.1.1.1.cell 1) (And.intro (k11d.1.1.1.cell 2) (And.intro (k11d.1.2.1.cell 0) (And.intro (k11d.1.2.1.cell 1) (And.intro (k11d.1.2.1.cell 2) (And.intro (k11d.2.cell 0) (And.intro (k11d.2.cell 1) (And.intro (k11d.2.cell 2) (k11d)))))))))
    go_region_held3 (fun w' => w'.cell? ⟨w.heap.size, 0, none⟩ = some (.bool (qn x)) ∧ w'.cell? ⟨w.heap.size, 1, none⟩ = some (.slice A1 (digs (qt x)).length c1) ∧ w'.cell? ⟨w.heap.size, 2, none⟩ = some (.slice D1 (digs (qd x)).length d1) ∧ w'.cell? ⟨g7, 0, none⟩ = some (.bool false) ∧ w'.cell? ⟨g7, 1, none⟩ = some (.slice E1 (digs (qt u)).length e1) ∧ w'.cell? ⟨g7, 2, none⟩ = some (.slice F1 (digs (qd u)).length f1) ∧ w'.cell? ⟨g8, 0, none⟩ = some (.bool (qn n)) ∧ w'.cell? ⟨g8, 1, none⟩ = some (.slice A8 (digs (qt n)).length c8) ∧ w'.cell? ⟨g8, 2, none⟩ = some (.slice M8 (digs (qd n)).length m8) ∧ D6 w W w.heap.size [.bool (qn x), .slice A1 (digs (qt x)).length c1, .slice D1 (digs (qd x)).length d1, .bool (qn y), .slice A2 (digs (qt y)).length c2, .slice D2 (digs (qd y)).length d2] [.bool (qn u), .slice E1 (digs (qt u)).length e1, .slice F1 (digs (qd u)).length f1, .bool (qn v), .slice E2 (digs (qt v)).length e2, .slice F2 (digs (qd v)).length f2] g7 [.bool false, .slice E1 (digs (qt u)).length e1, .slice F1 (digs (qd u)).length f1] g8 [.bool (qn n), .slice A8 (digs (qt n)).length c8, .slice M8 (digs (qd n)).length m8] w')
      (first
        | with_reducible exact kws.out
        | with_reducible exact k11s
        | (have s1 := (by with_reducible assumption : _ ∧ _ ∧ _ ∧ _ ∧ _ ∧ _ ∧ _ ∧ _ ∧ _ ∧ D6 w W w.heap.size [.bool (qn x), .slice A1 (digs (qt x)).length c1, .slice D1 (digs (qd x)).length d1, .bool (qn y), .slice A2 (digs (qt y)).length c2, .slice D2 (digs (qd y)).length d2] [.bool (qn u), .slice E1 (digs (qt u)).length e1, .slice F1 (digs (qd u)).length f1, .bool (qn v), .slice E2 (digs (qt v)).length e2, .slice F2 (digs (qd v)).length f2] g7 [.bool false, .slice E1 (digs (qt u)).length e1, .slice F1 (digs (qd u)).length f1] g8 [.bool (qn n), .slice A8 (digs (qt n)).length c8, .slice M8 (digs (qd n)).length m8] _).2.2.2.2.2.2.2.2.2.nx BX; have q0_ := s1.1.1.1.cell 0; have q1_ := s1.1.1.1.cell 1; have q2_ := s1.1.1.1.cell 2; have q3_ := s1.1.2.1.cell 0; have q4_ := s1.1.2.1.cell 1; have q5_ := s1.1.2.1.cell 2; have q6_ := s1.2.cell 0; have q7_ := s1.2.cell 1; have q8_ := s1.2.cell 2; with_reducible exact ⟨q0_, q1_, q2_, q3_, q4_, q5_, q6_, q7_, q8_, s1⟩)
        | with_reducible exact conjS _ ((by with_reducible assumption : _ ∧ _ ∧ _ ∧ _ ∧ _ ∧ _ ∧ _ ∧ _ ∧ _ ∧ D6 w W w.heap.size [.bool (qn x), .slice A1 (digs (qt x)).length c1, .slice D1 (digs (qd x)).length d1, .bool (qn y), .slice A2 (digs (qt y)).length c2, .slice D2 (digs (qd y)).length d2] [.bool (qn u), .slice E1 (digs (qt u)).length e1, .slice F1 (digs (qd u)).length f1, .bool (qn v), .slice E2 (digs (qt v)).length e2, .slice F2 (digs (qd v)).length f2] g7 [.bool false, .slice E1 (digs (qt u)).length e1, .slice F1 (digs (qd u)).length f1] g8 [.bool (qn n), .slice A8 (digs (qt n)).length c8, .slice M8 (digs (qd n)).length m8] _).2.2.2.2.2.2.2.2.2.nx (bal _ _))
        | (with_reducible refine conjS _ (D6.re (by with_reducible assumption : _ ∧ _ ∧ _ ∧ _ ∧ _ ∧ _ ∧ _ ∧ _ ∧ _ ∧ D6 w W w.heap.size [.bool (qn x), .slice A1 (digs (qt x)).length c1, .slice D1 (digs (qd x)).length d1, .bool (qn y), .slice A2 (digs (qt y)).length c2, .slice D2 (digs (qd y)).length d2] [.bool (qn u), .slice E1 (digs (qt u)).length e1, .slice F1 (digs (qd u)).length f1, .bool (qn v), .slice E2 (digs (qt v)).length e2, .slice F2 (digs (qd v)).length f2] g7 [.bool false, .slice E1 (digs (qt u)).length e1, .slice F1 (digs (qd u)).length f1] g8 [.bool (qn n), .slice A8 (digs (qt n)).length c8, .slice M8 (digs (qd n)).length m8] _).2.2.2.2.2.2.2.2.2 ?_); assumption))
      (first
        | (go_at_call 62; have hh := (by with_reducible assumption : _ ∧ _ ∧ _ ∧ _ ∧ _ ∧ _ ∧ _ ∧ _ ∧ _ ∧ D6 w W w.heap.size [.bool (qn x), .slice A1 (digs (qt x)).length c1, .slice D1 (digs (qd x)).length d1, .bool (qn y), .slice A2 (digs (qt y)).length c2, .slice D2 (digs (qd y)).length d2] [.bool (qn u), .slice E1 (digs (qt u)).length e1, .slice F1 (digs (qd u)).length f1, .bool (qn v), .slice E2 (digs (qt v)).length e2, .slice F2 (digs (qd v)).length f2] g7 [.bool false, .slice E1 (digs (qt u)).length e1, .slice F1 (digs (qd u)).length f1] g8 [.bool (qn n), .slice A8 (digs (qt n)).length c8, .slice M8 (digs (qd n)).length m8] _).2.2.2.2.2.2.2.2.2; refine (hP2 _ _ _ (HN.st hh.1.2.2) (hub.st hh.1.1.2.2.2.2)).mono ?_; rintro e w15 ⟨A15, c15, M15, m15, rfl, O15, P15, BX⟩; have H15 : RQ w15 w15.heap.size (.agg #[.bool (qn (n * ab u)), .slice A15 (digs (qt (n * ab u))).length c15, .slice M15 (digs (qd (n * ab u))).length m15]) (n * ab u) := ⟨A15, c15, M15, m15, rfl, O15.rw, P15.rw⟩; have z15 := And.intro (And.intro (hh.nx BX).1.1.2.2.2.1.2 (And.intro (hh.nx BX).1.2.1.2 (hh.nx BX).1.2.2.size)) (hh.nx BX).2.2; (first | (have sg := sg.nx BX; have g0 := sg.cell 0; have g1 := sg.cell 1; have g2 := sg.cell 2; have h0 := sg.frozen 0; have h1 := sg.frozen 1; have h2 := sg.frozen 2) | (have sg := (SB.new _ [.bool false, .slice none 0 0, .slice none 0 0] 24).nx BX; have g0 := sg.cell 0; have g1 := sg.cell 1; have g2 := sg.cell 2; have h0 := sg.frozen 0; have h1 := sg.frozen 1; have h2 := sg.frozen 2) | (have sg := ((SB.new _ [.bool false, .slice none 0 0, .slice none 0 0] 24).nx (Below.drew (Below.refl _ _))).nx BX; have g0 := sg.cell 0; have g1 := sg.cell 1; have g2 := sg.cell 2; have h0 := sg.frozen 0; have h1 := sg.frozen 1; have h2 := sg.frozen 2) | skip))
        | (go_at_call 64; have hh := (by with_reducible assumption : _ ∧ _ ∧ _ ∧ _ ∧ _ ∧ _ ∧ _ ∧ _ ∧ _ ∧ D6 w W w.heap.size [.bool (qn x), .slice A1 (digs (qt x)).length c1, .slice D1 (digs (qd x)).length d1, .bool (qn y), .slice A2 (digs (qt y)).length c2, .slice D2 (digs (qd y)).length d2] [.bool (qn u), .slice E1 (digs (qt u)).length e1, .slice F1 (digs (qd u)).length f1, .bool (qn v), .slice E2 (digs (qt v)).length e2, .slice F2 (digs (qd v)).length f2] g7 [.bool false, .slice E1 (digs (qt u)).length e1, .slice F1 (digs (qd u)).length f1] g8 [.bool (qn n), .slice A8 (digs (qt n)).length c8, .slice M8 (digs (qd n)).length m8] _).2.2.2.2.2.2.2.2.2; refine (rminus_any (n * ab u) A15 M15 c15 m15 _).mono ?_; rintro e w16 ⟨rfl, BX⟩; have z16 := And.intro (And.intro (hh.nx BX).1.1.2.2.2.1.2 (And.intro (hh.nx BX).1.2.1.2 (hh.nx BX).1.2.2.size)) (hh.nx BX).2.2; (first | with_reducible (have H15 := H15.st BX) | with_reducible (have H15 := (H15.st (bal _ _)).st BX)); (first | (have sg := sg.nx BX; have g0 := sg.cell 0; have g1 := sg.cell 1; have g2 := sg.cell 2; have h0 := sg.frozen 0; have h1 := sg.frozen 1; have h2 := sg.frozen 2) | (have sg := (SB.new _ [.bool false, .slice none 0 0, .slice none 0 0] 24).nx BX; have g0 := sg.cell 0; have g1 := sg.cell 1; have g2 := sg.cell 2; have h0 := sg.frozen 0; have h1 := sg.frozen 1; have h2 := sg.frozen 2) | (have sg := ((SB.new _ [.bool false, .slice none 0 0, .slice none 0 0] 24).nx (Below.drew (Below.refl _ _))).nx BX; have g0 := sg.cell 0; have g1 := sg.cell 1; have g2 := sg.cell 2; have h0 := sg.frozen 0; have h1 := sg.frozen 1; have h2 := sg.frozen 2) | skip))
        | ((first | have gl := sg.2 | skip); go_at_call 63; have hh := (by with_reducible assumption : _ ∧ _ ∧ _ ∧ _ ∧ _ ∧ _ ∧ _ ∧ _ ∧ _ ∧ D6 w W w.heap.size [.bool (qn x), .slice A1 (digs (qt x)).length c1, .slice D1 (digs (qd x)).length d1, .bool (qn y), .slice A2 (digs (qt y)).length c2, .slice D2 (digs (qd y)).length d2] [.bool (qn u), .slice E1 (digs (qt u)).length e1, .slice F1 (digs (qd u)).length f1, .bool (qn v), .slice E2 (digs (qt v)).length e2, .slice F2 (digs (qd v)).length f2] g7 [.bool false, .slice E1 (digs (qt u)).length e1, .slice F1 (digs (qd u)).length f1] g8 [.bool (qn n), .slice A8 (digs (qt n)).length c8, .slice M8 (digs (qd n)).length m8] _).2.2.2.2.2.2.2.2.2; refine (hS _ _ _ (hx.st hh.1.1.2.2.2.2) (by first | with_reducible exact H15.neg | with_reducible exact (H15.st (bal _ _)).neg)).mono ?_; rintro e w17 ⟨A17, c17, M17, m17, rfl, O17, P17, BX⟩; have z17 := And.intro (And.intro (hh.nx BX).1.1.2.2.2.1.2 (And.intro (hh.nx BX).1.2.1.2 (hh.nx BX).1.2.2.size)) (hh.nx BX).2.2; have hl := hh.2.2; have kk := hh.nx BX; (first | (have sg := sg.nx BX; have g0 := sg.cell 0; have g1 := sg.cell 1; have g2 := sg.cell 2; have h0 := sg.frozen 0; have h1 := sg.frozen 1; have h2 := sg.frozen 2) | (have sg := (SB.new _ [.bool false, .slice none 0 0, .slice none 0 0] 24).nx BX; have g0 := sg.cell 0; have g1 := sg.cell 1; have g2 := sg.cell 2; have h0 := sg.frozen 0; have h1 := sg.frozen 1; have h2 := sg.frozen 2) | (have sg := ((SB.new _ [.bool false, .slice none 0 0, .slice none 0 0] 24).nx (Below.drew (Below.refl _ _))).nx BX; have g0 := sg.cell 0; have g1 := sg.cell 1; have g2 := sg.cell 2; have h0 := sg.frozen 0; have h1 := sg.frozen 1; have h2 := sg.frozen 2) | skip); (first | (have gz := gte (b := w.heap.size) (g := g7) (h := g8) (n := W.heap.size) sg (by first | assumption | (simp; omega)); have kw := Lib.hid (D6.wr3 kk gz (.bool (qn s)) (.slice A17 (digs (qt s)).length c17) (.slice M17 (digs (qd s)).length m17)); have kws := Lib.hid (conjS _ kw.out)) | skip)))
    all_goals
      go_wp2_with fail
      go_meet
      first
        | (have _hk := kw; exact ⟨_, A17, c17, M17, m17, rfl, SB.put3 sg _ _ _, kw.out, gz.2, (OW.put3 O17 gl _ _ _).base_le hl, (OW.put3 P17 gl _ _ _).base_le hl⟩)
        | (have _hk := kw; exact ⟨_, A17, c17, M17, m17, rfl, SB.put3 sg _ _ _, kw.out, gz.2, (OW.put3 O17 (by simp) _ _ _).base_le hl, (OW.put3 P17 (by simp) _ _ _).base_le hl⟩)
        | exact ⟨_, A17, c17, M17, m17, rfl, SB.new w17 _ _, kk.nx (bal _ _), z17.2, (O17.base_le hl).alloc _, (P17.base_le hl).alloc _⟩
  case rest =>
    obtain ⟨g9, A9, c9, M9, m9, rfl, s9, k12, hg9, O9, P9⟩ := hcut
    have k13 := k12.1.1
    have s8 := k12.2
    have O8 := (O8.below k12.1.2.2 (Nat.le_refl _)).base_le (show w.heap.size + 4 ≤ g7 + 1 by omega)
    have P8 := (P8.below k12.1.2.2 (Nat.le_refl _)).base_le (show w.heap.size + 4 ≤ g7 + 1 by omega)
    have hg8 : w.heap.size + 3 < g8 := by omega
    clear k11 k12 z8 conjS HN hb1 hb2 hx hub hP2 hS
    have m0 := k13.2.1.cell 0
    go_upto_if 57 with fail
    go_cut [] (fun wx => ∃ (A : Option Addr) (c : Nat) (M : Option Addr) (m : Nat), D4 w w.heap.size [.bool (qn x), .slice A1 (digs (qt x)).length c1, .slice D1 (digs (qd x)).length d1, .bool (qn y), .slice A2 (digs (qt y)).length c2, .slice D2 (digs (qd y)).length d2] [.bool (qn u), .slice E1 (digs (qt u)).length e1, .slice F1 (digs (qd u)).length f1, .bool (qn v), .slice E2 (digs (qt v)).length e2, .slice F2 (digs (qd v)).length f2] wx ∧ SB wx g8 [.bool (qn q), .slice A (digs (qt q)).length c, .slice M (digs (qd q)).length m] ∧ SB wx g9 [.bool (qn s), .slice A9 (digs (qt s)).length c9, .slice M9 (digs (qd s)).length m9] ∧ OW wx (w.heap.size + 4) A c (digs (qt q)) ∧ OW wx (w.heap.size + 4) M m (digs (qd q)) ∧ OW wx (w.heap.size + 4) A9 c9 (digs (qt s)) ∧ OW wx (w.heap.size + 4) M9 m9 (digs (qd s)))
    case first =>
      generalize qn u = bq at *
      cases bq with
      | true =>
        have hqq : q = -n := by
          have h := hq.out
          rw [← h]
          exact if_pos rfl
        subst hqq
        clear hq
        have i0 := s8.cell 0
        have i1 := s8.cell 1
        have i2 := s8.cell 2
        go_wp2_with fail
        refine (rminus_any n A8 M8 c8 m8 _).mono ?_; rintro e w18 ⟨rfl, BX⟩
        have k13 := k13.nx BX
        have s8 := s8.nx BX
        have s9 := s9.nx BX
        have O8 := O8.below BX (Nat.le_refl _)
        have P8 := P8.below BX (Nat.le_refl _)
        have O9 := O9.below BX (Nat.le_refl _)
        have P9 := P9.below BX (Nat.le_refl _)
        clear i0 i1 i2 BX m0
        have i0 := s8.cell 0
        have i1 := s8.cell 1
        have i2 := s8.cell 2
        have f0 := s8.frozen 0
        have f1 := s8.frozen 1
        have f2 := s8.frozen 2
        go_wp2_with fail
        go_meet
        have k13 := k13.wr3 hg8 (.bool (qn (-n))) (.slice A8 (digs (qt (-n))).length c8) (.slice M8 (digs (qd (-n))).length m8)
        have s8 := s8.put3 (.bool (qn (-n))) (.slice A8 (digs (qt (-n))).length c8) (.slice M8 (digs (qd (-n))).length m8)
        have s9 := s9.wr3 (r := g8) (by omega) (.bool (qn (-n))) (.slice A8 (digs (qt (-n))).length c8) (.slice M8 (digs (qd (-n))).length m8)
        have O8 := O8.far3 hfA (.bool (qn (-n))) (.slice A8 (digs (qt (-n))).length c8) (.slice M8 (digs (qd (-n))).length m8)
        have P8 := P8.far3 hfM (.bool (qn (-n))) (.slice A8 (digs (qt (-n))).length c8) (.slice M8 (digs (qd (-n))).length m8)
        have O9 := (O9.put3 (b := g8) (Nat.lt_succ_self _) (.bool (qn (-n))) (.slice A8 (digs (qt (-n))).length c8) (.slice M8 (digs (qd (-n))).length m8)).base_le (show w.heap.size + 4 ≤ g8 + 1 by omega)
        have P9 := (P9.put3 (b := g8) (Nat.lt_succ_self _) (.bool (qn (-n))) (.slice A8 (digs (qt (-n))).length c8) (.slice M8 (digs (qd (-n))).length m8)).base_le (show w.heap.size + 4 ≤ g8 + 1 by omega)
        rw [← q_neg_t n] at O8
        rw [← q_neg_d n] at P8
        exact ⟨A8, c8, M8, m8, k13, s8, s9, O8, P8, O9, P9⟩
      | false =>
        have hqq : q = n := by
          have h := hq.out
          rw [← h]
          exact if_neg (by simp)
        subst hqq
        clear hq
        go_wp2_with fail
        go_meet
        exact ⟨A8, c8, M8, m8, k13, s8, s9, O8, P8, O9.base_le (show w.heap.size + 4 ≤ g8 + 1 by omega), P9.base_le (show w.heap.size + 4 ≤ g8 + 1 by omega)⟩
    case rest =>
      clear k13 s8 s9 O8 P8 O9 P9 m0
      obtain ⟨A8', c8', M8', m8', k13, s8, s9, O8, P8, O9, P9⟩ := hcut
      have hwc : w.heap.size + 4 ≤ wc.heap.size := k13.2.2.2.1.2
      go_upto_region 13 with fail
      go_cut [10, 11] (fun s10 s11 wx => ∃ (g10 g11 : Nat) (Z1 : Option Addr) (z1 : Nat) (Z2 : Option Addr) (z2 : Nat), s10 = .pointer (some ⟨g10, 0, none⟩) ∧ s11 = .pointer (some ⟨g11, 0, none⟩) ∧ D4 w w.heap.size [.bool (qn x), .slice A1 (digs (qt x)).length c1, .slice D1 (digs (qd x)).length d1, .bool (qn y), .slice A2 (digs (qt y)).length c2, .slice D2 (digs (qd y)).length d2] [.bool (qn u), .slice E1 (digs (qt u)).length e1, .slice F1 (digs (qd u)).length f1, .bool (qn v), .slice E2 (digs (qt v)).length e2, .slice F2 (digs (qd v)).length f2] wx ∧ SB wx g10 [.bool (qn q), .slice A8' (digs (qt q)).length c8', .slice M8' (digs (qd q)).length m8', .bool false, .slice none 0 0, .slice Z1 1 z1] ∧ SB wx g11 [.bool (qn s), .slice A9 (digs (qt s)).length c9, .slice M9 (digs (qd s)).length m9, .bool false, .slice none 0 0, .slice Z2 1 z2] ∧ OW wx (w.heap.size + 4) A8' c8' (digs (qt q)) ∧ OW wx (w.heap.size + 4) M8' m8' (digs (qd q)) ∧ OW wx (w.heap.size + 4) Z1 z1 [1] ∧ OW wx (w.heap.size + 4) A9 c9 (digs (qt s)) ∧ OW wx (w.heap.size + 4) M9 m9 (digs (qd s)) ∧ OW wx (w.heap.size + 4) Z2 z2 [1] ∧ w.heap.size + 3 < g10 ∧ w.heap.size + 3 < g11)
      case first =>
        have BB0 : Below wc.heap.size wc wc.drew := Below.drew (Below.refl _ _)
        refine AnyU.regionQ 9 10 (fun w' => w'.cell? ⟨g8, 0, none⟩ = some (.bool (qn q)) ∧ w'.cell? ⟨g8, 1, none⟩ = some (.slice A8' (digs (qt q)).length c8') ∧ w'.cell? ⟨g8, 2, none⟩ = some (.slice M8' (digs (qd q)).length m8') ∧ w'.cell? ⟨g9, 0, none⟩ = some (.bool (qn s)) ∧ w'.cell? ⟨g9, 1, none⟩ = some (.slice A9 (digs (qt s)).length c9) ∧ w'.cell? ⟨g9, 2, none⟩ = some (.slice M9 (digs (qd s)).length m9)) rfl (by kernel_rfl) (by kernel_rfl) (by repeat (first | refine quiet_then ?_ | refine quiet_block ?_ | exact quiet_body)) ⟨(s8.nx BB0).cell 0, (s8.nx BB0).cell 1, (s8.nx BB0).cell 2, (s9.nx BB0).cell 0, (s9.nx BB0).cell 1, (s9.nx BB0).cell 2⟩ (fun Q hQK hq' hns hHeld => ?_)
        generalize wc.drew = w30 at *
        refine AnyU.next (i := 0) (v := ?_) hq' hns hHeld rfl rfl (by kernel_rfl) (Or.inl ⟨by rfl, ?_⟩) ?_
        rotate_left
        · intro w' hSw; (try dsimp only at hSw); go_simp <;> with_reducible rfl
        try simp only [List.setIfInBounds_toArray, List.set_cons_zero, List.set_cons_succ]
        refine AnyU.next (i := 3) (v := ?_) hq' hns hHeld rfl rfl (by kernel_rfl) (Or.inl ⟨by rfl, ?_⟩) ?_
        rotate_left
        · intro w' hSw; (try dsimp only at hSw); go_simp <;> with_reducible rfl
        try simp only [List.setIfInBounds_toArray, List.set_cons_zero, List.set_cons_succ]
        refine AnyU.three (i := 1) (j := 6) (m := 7) (by kernel_rfl) (USome.mk rfl (fun K hK => ?_)) (USome.mk rfl (fun K hK => ?_)) (USome.mk rfl (fun K hK => ?_))
        · go_simp
          refine (hZ0 _).mono ?_; rintro e w31 ⟨Z1, z1, rfl, OZ1, BX⟩
          go_wp2_with fail
          have OZ1 := OZ1.base_le (BB0.size)
          skip
          have BB31 := bt BB0 BX
          clear BX
          refine hK.out _ _ (.inr ⟨(s8.nx BB31).cell 0, (s8.nx BB31).cell 1, (s8.nx BB31).cell 2, (s9.nx BB31).cell 0, (s9.nx BB31).cell 1, (s9.nx BB31).cell 2⟩) (fun hHeld => ?_)
          have hHeld := hHeld.resolve_left (by decide)
          clear hK K
          try simp only [List.setIfInBounds_toArray, List.set_cons_zero, List.set_cons_succ]
          refine AnyU.next (i := 2) (v := ?_) hq' hns hHeld rfl rfl (by kernel_rfl) (Or.inl ⟨by rfl, ?_⟩) ?_
          rotate_left
          · intro w' hSw; (try dsimp only at hSw); go_simp <;> with_reducible rfl
          try simp only [List.setIfInBounds_toArray, List.set_cons_zero, List.set_cons_succ]
          refine AnyU.three (i := 4) (j := 6) (m := 7) (by kernel_rfl) (USome.mk rfl (fun K hK => ?_)) (USome.mk rfl (fun K hK => ?_)) (USome.mk rfl (fun K hK => ?_))
          · go_simp
            refine (hZ0 _).mono ?_; rintro e w32 ⟨Z2, z2, rfl, OZ2, BX⟩
            go_wp2_with fail
            have OZ2 := OZ2.base_le (BB31.size)
            skip
            have OZ1 := OZ1.below BX (Nat.le_refl _)
            have BB32 := bt BB31 BX
            clear BX
            refine hK.out _ _ (.inr ⟨(s8.nx BB32).cell 0, (s8.nx BB32).cell 1, (s8.nx BB32).cell 2, (s9.nx BB32).cell 0, (s9.nx BB32).cell 1, (s9.nx BB32).cell 2⟩) (fun hHeld => ?_)
            have hHeld := hHeld.resolve_left (by decide)
            clear hK K
            try simp only [List.setIfInBounds_toArray, List.set_cons_zero, List.set_cons_succ]
            refine AnyU.next (i := 5) (v := ?_) hq' hns hHeld rfl rfl (by kernel_rfl) (Or.inl ⟨by rfl, ?_⟩) ?_
            rotate_left
            · intro w' hSw; (try dsimp only at hSw); go_simp <;> with_reducible rfl
            try simp only [List.setIfInBounds_toArray, List.set_cons_zero, List.set_cons_succ]
            refine AnyU.two (i := 6) (j := 7) (by kernel_rfl) (USome.mk rfl (fun K hK => ?_)) (USome.mk rfl (fun K hK => ?_))
            · go_simp
              have X10 := SB.new w32 [.bool false, .slice none 0 0, .slice none 0 0, .bool false, .slice none 0 0, .slice none 0 0] 26
              have BX := bal w32 (.cells #[.bool false, .slice none 0 0, .slice none 0 0, .bool false, .slice none 0 0, .slice none 0 0] 26)
              have BB33 := bt BB32 BX
              have hwg10 : wc.heap.size ≤ w32.heap.size := BB32.size
              have hnZ1g10 : ∀ b, Z1 = some ⟨b, 0, none⟩ → b ≠ w32.heap.size := fun b hb => by subst hb; exact Nat.ne_of_lt OZ1.lt.2
              have hnZ2g10 : ∀ b, Z2 = some ⟨b, 0, none⟩ → b ≠ w32.heap.size := fun b hb => by subst hb; exact Nat.ne_of_lt OZ2.lt.2
              have OZ1 := OZ1.below BX (Nat.le_refl _)
              have OZ2 := OZ2.below BX (Nat.le_refl _)
              obtain ⟨w33, hw33⟩ : ∃ w33, w33 = w32.alloc (.cells #[.bool false, .slice none 0 0, .slice none 0 0, .bool false, .slice none 0 0, .slice none 0 0] 26) := ⟨_, rfl⟩
              rw [← hw33] at X10 BB33 OZ1 OZ2 ⊢
              clear hw33 BX
              generalize w32.heap.size = g10 at *
              refine hK.out _ _ (.inr ⟨(s8.nx BB33).cell 0, (s8.nx BB33).cell 1, (s8.nx BB33).cell 2, (s9.nx BB33).cell 0, (s9.nx BB33).cell 1, (s9.nx BB33).cell 2⟩) (fun hHeld => ?_)
              have hHeld := hHeld.resolve_left (by decide)
              clear hK K
              try simp only [List.setIfInBounds_toArray, List.set_cons_zero, List.set_cons_succ]
              refine AnyU.one 7 (by kernel_rfl) rfl (fun K hK => ?_)
              go_simp
              have X11 := SB.new w33 [.bool false, .slice none 0 0, .slice none 0 0, .bool false, .slice none 0 0, .slice none 0 0] 26
              have BX := bal w33 (.cells #[.bool false, .slice none 0 0, .slice none 0 0, .bool false, .slice none 0 0, .slice none 0 0] 26)
              have BB34 := bt BB33 BX
              have hwg11 : wc.heap.size ≤ w33.heap.size := BB33.size
              have hnZ1g11 : ∀ b, Z1 = some ⟨b, 0, none⟩ → b ≠ w33.heap.size := fun b hb => by subst hb; exact Nat.ne_of_lt OZ1.lt.2
              have hnZ2g11 : ∀ b, Z2 = some ⟨b, 0, none⟩ → b ≠ w33.heap.size := fun b hb => by subst hb; exact Nat.ne_of_lt OZ2.lt.2
              have hltg11 := X10.2
              have X10 := X10.nx BX
              have OZ1 := OZ1.below BX (Nat.le_refl _)
              have OZ2 := OZ2.below BX (Nat.le_refl _)
              obtain ⟨w34, hw34⟩ : ∃ w34, w34 = w33.alloc (.cells #[.bool false, .slice none 0 0, .slice none 0 0, .bool false, .slice none 0 0, .slice none 0 0] 26) := ⟨_, rfl⟩
              rw [← hw34] at X11 BB34 X10 OZ1 OZ2 ⊢
              clear hw34 BX
              generalize w33.heap.size = g11 at *
              refine hK.out _ _ (.inr ⟨(s8.nx BB34).cell 0, (s8.nx BB34).cell 1, (s8.nx BB34).cell 2, (s9.nx BB34).cell 0, (s9.nx BB34).cell 1, (s9.nx BB34).cell 2⟩) (fun hHeld => ?_)
              have hHeld := hHeld.resolve_left (by decide)
              clear hK K
              try simp only [List.setIfInBounds_toArray, List.set_cons_zero, List.set_cons_succ]
              have i0 := X10.cell 0
              have i1 := X10.cell 1
              have i2 := X10.cell 2
              have i3 := X10.cell 3
              have i4 := X10.cell 4
              have i5 := X10.cell 5
              have f0 := X10.frozen 0
              have f1 := X10.frozen 1
              have f2 := X10.frozen 2
              have f3 := X10.frozen 3
              have f4 := X10.frozen 4
              have f5 := X10.frozen 5
              refine AnyU.one 8 (by kernel_rfl) rfl (fun K hK => ?_)
              go_simp
              have BBa := wr6_below (b := g10) BB34 hwg10 (.bool (qn q)) (.slice A8' (digs (qt q)).length c8') (.slice M8' (digs (qd q)).length m8') (.bool false) (.slice none 0 0) (.slice Z1 1 z1)
              refine hK.out _ _ (.inr ⟨(s8.nx BBa).cell 0, (s8.nx BBa).cell 1, (s8.nx BBa).cell 2, (s9.nx BBa).cell 0, (s9.nx BBa).cell 1, (s9.nx BBa).cell 2⟩) (fun hHeld => ?_)
              have hHeld := hHeld.resolve_left (by decide)
              clear hK K hHeld
              try simp only [List.setIfInBounds_toArray, List.set_cons_zero, List.set_cons_succ]
              clear i0 i1 i2 i3 i4 i5 f0 f1 f2 f3 f4 f5
              have hne : g11 ≠ g10 := by omega
              have X11 := X11.wr6 (r := g10) hne (.bool (qn q)) (.slice A8' (digs (qt q)).length c8') (.slice M8' (digs (qd q)).length m8') (.bool false) (.slice none 0 0) (.slice Z1 1 z1)
              have X10 := X10.put6 (.bool (qn q)) (.slice A8' (digs (qt q)).length c8') (.slice M8' (digs (qd q)).length m8') (.bool false) (.slice none 0 0) (.slice Z1 1 z1)
              have OZ1 := OZ1.far6 hnZ1g10 (.bool (qn q)) (.slice A8' (digs (qt q)).length c8') (.slice M8' (digs (qd q)).length m8') (.bool false) (.slice none 0 0) (.slice Z1 1 z1)
              have OZ2 := OZ2.far6 hnZ2g10 (.bool (qn q)) (.slice A8' (digs (qt q)).length c8') (.slice M8' (digs (qd q)).length m8') (.bool false) (.slice none 0 0) (.slice Z1 1 z1)
              obtain ⟨Wa, hWa⟩ : ∃ Wa, ((((((w34.setCell ⟨g10, 0, none⟩ (.bool (qn q))).setCell ⟨g10, 1, none⟩ (.slice A8' (digs (qt q)).length c8')).setCell ⟨g10, 2, none⟩ (.slice M8' (digs (qd q)).length m8')).setCell ⟨g10, 3, none⟩ (.bool false)).setCell ⟨g10, 4, none⟩ (.slice none 0 0)).setCell ⟨g10, 5, none⟩ (.slice Z1 1 z1)) = Wa := ⟨_, rfl⟩
              rw [hWa]
              unfold wr6 wr3 at X10 X11 OZ1 OZ2 BBa
              rw [hWa] at X10 X11 OZ1 OZ2 BBa
              clear hWa
              have i0 := X11.cell 0
              have i1 := X11.cell 1
              have i2 := X11.cell 2
              have i3 := X11.cell 3
              have i4 := X11.cell 4
              have i5 := X11.cell 5
              have f0 := X11.frozen 0
              have f1 := X11.frozen 1
              have f2 := X11.frozen 2
              have f3 := X11.frozen 3
              have f4 := X11.frozen 4
              have f5 := X11.frozen 5
              refine AnyU.one 9 (by kernel_rfl) rfl (fun K hK => ?_)
              go_simp
              refine hK.out _ _ (.inl rfl) (fun _ => ?_)
              clear hK K
              try simp only [List.setIfInBounds_toArray, List.set_cons_zero, List.set_cons_succ]
              clear i0 i1 i2 i3 i4 i5 f0 f1 f2 f3 f4 f5
              refine AnyU.done (by kernel_rfl) (hQK.out _ _ ?_)
              go_wp2_with fail
              go_meet
              have BBb := wr6_below (b := g11) BBa hwg11 (.bool (qn s)) (.slice A9 (digs (qt s)).length c9) (.slice M9 (digs (qd s)).length m9) (.bool false) (.slice none 0 0) (.slice Z2 1 z2)
              have X10 := X10.wr6 (r := g11) (Ne.symm hne) (.bool (qn s)) (.slice A9 (digs (qt s)).length c9) (.slice M9 (digs (qd s)).length m9) (.bool false) (.slice none 0 0) (.slice Z2 1 z2)
              have X11 := X11.put6 (.bool (qn s)) (.slice A9 (digs (qt s)).length c9) (.slice M9 (digs (qd s)).length m9) (.bool false) (.slice none 0 0) (.slice Z2 1 z2)
              have OZ1 := OZ1.far6 hnZ1g11 (.bool (qn s)) (.slice A9 (digs (qt s)).length c9) (.slice M9 (digs (qd s)).length m9) (.bool false) (.slice none 0 0) (.slice Z2 1 z2)
              have OZ2 := OZ2.far6 hnZ2g11 (.bool (qn s)) (.slice A9 (digs (qt s)).length c9) (.slice M9 (digs (qd s)).length m9) (.bool false) (.slice none 0 0) (.slice Z2 1 z2)
              exact ⟨g10, g11, Z1, z1, Z2, z2, rfl, rfl, k13.nx BBb, X10, X11, O8.below BBb (Nat.le_refl _), P8.below BBb (Nat.le_refl _), OZ1.base_le hwc, O9.below BBb (Nat.le_refl _), P9.below BBb (Nat.le_refl _), OZ2.base_le hwc, by omega, by omega⟩
            · go_simp
              have X11 := SB.new w32 [.bool false, .slice none 0 0, .slice none 0 0, .bool false, .slice none 0 0, .slice none 0 0] 26
              have BX := bal w32 (.cells #[.bool false, .slice none 0 0, .slice none 0 0, .bool false, .slice none 0 0, .slice none 0 0] 26)
              have BB35 := bt BB32 BX
              have hwg11 : wc.heap.size ≤ w32.heap.size := BB32.size
              have hnZ1g11 : ∀ b, Z1 = some ⟨b, 0, none⟩ → b ≠ w32.heap.size := fun b hb => by subst hb; exact Nat.ne_of_lt OZ1.lt.2
              have hnZ2g11 : ∀ b, Z2 = some ⟨b, 0, none⟩ → b ≠ w32.heap.size := fun b hb => by subst hb; exact Nat.ne_of_lt OZ2.lt.2
              have OZ1 := OZ1.below BX (Nat.le_refl _)
              have OZ2 := OZ2.below BX (Nat.le_refl _)
              obtain ⟨w35, hw35⟩ : ∃ w35, w35 = w32.alloc (.cells #[.bool false, .slice none 0 0, .slice none 0 0, .bool false, .slice none 0 0, .slice none 0 0] 26) := ⟨_, rfl⟩
              rw [← hw35] at X11 BB35 OZ1 OZ2 ⊢
              clear hw35 BX
              generalize w32.heap.size = g11 at *
              refine hK.out _ _ (.inr ⟨(s8.nx BB35).cell 0, (s8.nx BB35).cell 1, (s8.nx BB35).cell 2, (s9.nx BB35).cell 0, (s9.nx BB35).cell 1, (s9.nx BB35).cell 2⟩) (fun hHeld => ?_)
              have hHeld := hHeld.resolve_left (by decide)
              clear hK K
              try simp only [List.setIfInBounds_toArray, List.set_cons_zero, List.set_cons_succ]
              refine AnyU.one 6 (by kernel_rfl) rfl (fun K hK => ?_)
              go_simp
              have X10 := SB.new w35 [.bool false, .slice none 0 0, .slice none 0 0, .bool false, .slice none 0 0, .slice none 0 0] 26
              have BX := bal w35 (.cells #[.bool false, .slice none 0 0, .slice none 0 0, .bool false, .slice none 0 0, .slice none 0 0] 26)
              have BB36 := bt BB35 BX
              have hwg10 : wc.heap.size ≤ w35.heap.size := BB35.size
              have hnZ1g10 : ∀ b, Z1 = some ⟨b, 0, none⟩ → b ≠ w35.heap.size := fun b hb => by subst hb; exact Nat.ne_of_lt OZ1.lt.2
              have hnZ2g10 : ∀ b, Z2 = some ⟨b, 0, none⟩ → b ≠ w35.heap.size := fun b hb => by subst hb; exact Nat.ne_of_lt OZ2.lt.2
              have hltg10 := X11.2
              have X11 := X11.nx BX
              have OZ1 := OZ1.below BX (Nat.le_refl _)
              have OZ2 := OZ2.below BX (Nat.le_refl _)
              obtain ⟨w36, hw36⟩ : ∃ w36, w36 = w35.alloc (.cells #[.bool false, .slice none 0 0, .slice none 0 0, .bool false, .slice none 0 0, .slice none 0 0] 26) := ⟨_, rfl⟩
              rw [← hw36] at X10 BB36 X11 OZ1 OZ2 ⊢
              clear hw36 BX
              generalize w35.heap.size = g10 at *
              refine hK.out _ _ (.inr ⟨(s8.nx BB36).cell 0, (s8.nx BB36).cell 1, (s8.nx BB36).cell 2, (s9.nx BB36).cell 0, (s9.nx BB36).cell 1, (s9.nx BB36).cell 2⟩) (fun hHeld => ?_)
              have hHeld := hHeld.resolve_left (by decide)
              clear hK K
              try simp only [List.setIfInBounds_toArray, List.set_cons_zero, List.set_cons_succ]
              have i0 := X10.cell 0
              have i1 := X10.cell 1
              have i2 := X10.cell 2
              have i3 := X10.cell 3
              have i4 := X10.cell 4
              have i5 := X10.cell 5
              have f0 := X10.frozen 0
              have f1 := X10.frozen 1
              have f2 := X10.frozen 2
              have f3 := X10.frozen 3
              have f4 := X10.frozen 4
              have f5 := X10.frozen 5
              refine AnyU.one 8 (by kernel_rfl) rfl (fun K hK => ?_)
              go_simp
              have BBa := wr6_below (b := g10) BB36 hwg10 (.bool (qn q)) (.slice A8' (digs (qt q)).length c8') (.slice M8' (digs (qd q)).length m8') (.bool false) (.slice none 0 0) (.slice Z1 1 z1)
              refine hK.out _ _ (.inr ⟨(s8.nx BBa).cell 0, (s8.nx BBa).cell 1, (s8.nx BBa).cell 2, (s9.nx BBa).cell 0, (s9.nx BBa).cell 1, (s9.nx BBa).cell 2⟩) (fun hHeld => ?_)
              have hHeld := hHeld.resolve_left (by decide)
              clear hK K hHeld
              try simp only [List.setIfInBounds_toArray, List.set_cons_zero, List.set_cons_succ]
              clear i0 i1 i2 i3 i4 i5 f0 f1 f2 f3 f4 f5
              have hne : g11 ≠ g10 := by omega
              have X11 := X11.wr6 (r := g10) hne (.bool (qn q)) (.slice A8' (digs (qt q)).length c8') (.slice M8' (digs (qd q)).length m8') (.bool false) (.slice none 0 0) (.slice Z1 1 z1)
              have X10 := X10.put6 (.bool (qn q)) (.slice A8' (digs (qt q)).length c8') (.slice M8' (digs (qd q)).length m8') (.bool false) (.slice none 0 0) (.slice Z1 1 z1)
              have OZ1 := OZ1.far6 hnZ1g10 (.bool (qn q)) (.slice A8' (digs (qt q)).length c8') (.slice M8' (digs (qd q)).length m8') (.bool false) (.slice none 0 0) (.slice Z1 1 z1)
              have OZ2 := OZ2.far6 hnZ2g10 (.bool (qn q)) (.slice A8' (digs (qt q)).length c8') (.slice M8' (digs (qd q)).length m8') (.bool false) (.slice none 0 0) (.slice Z1 1 z1)
              obtain ⟨Wa, hWa⟩ : ∃ Wa, ((((((w36.setCell ⟨g10, 0, none⟩ (.bool (qn q))).setCell ⟨g10, 1, none⟩ (.slice A8' (digs (qt q)).length c8')).setCell ⟨g10, 2, none⟩ (.slice M8' (digs (qd q)).length m8')).setCell ⟨g10, 3, none⟩ (.bool false)).setCell ⟨g10, 4, none⟩ (.slice none 0 0)).setCell ⟨g10, 5, none⟩ (.slice Z1 1 z1)) = Wa := ⟨_, rfl⟩
              rw [hWa]
              unfold wr6 wr3 at X10 X11 OZ1 OZ2 BBa
              rw [hWa] at X10 X11 OZ1 OZ2 BBa
              clear hWa
              have i0 := X11.cell 0
              have i1 := X11.cell 1
              have i2 := X11.cell 2
              have i3 := X11.cell 3
              have i4 := X11.cell 4
              have i5 := X11.cell 5
              have f0 := X11.frozen 0
              have f1 := X11.frozen 1
              have f2 := X11.frozen 2
              have f3 := X11.frozen 3
              have f4 := X11.frozen 4
              have f5 := X11.frozen 5
              refine AnyU.one 9 (by kernel_rfl) rfl (fun K hK => ?_)
              go_simp
              refine hK.out _ _ (.inl rfl) (fun _ => ?_)
              clear hK K
              try simp only [List.setIfInBounds_toArray, List.set_cons_zero, List.set_cons_succ]
              clear i0 i1 i2 i3 i4 i5 f0 f1 f2 f3 f4 f5
              refine AnyU.done (by kernel_rfl) (hQK.out _ _ ?_)
              go_wp2_with fail
              go_meet
              have BBb := wr6_below (b := g11) BBa hwg11 (.bool (qn s)) (.slice A9 (digs (qt s)).length c9) (.slice M9 (digs (qd s)).length m9) (.bool false) (.slice none 0 0) (.slice Z2 1 z2)
              have X10 := X10.wr6 (r := g11) (Ne.symm hne) (.bool (qn s)) (.slice A9 (digs (qt s)).length c9) (.slice M9 (digs (qd s)).length m9) (.bool false) (.slice none 0 0) (.slice Z2 1 z2)
              have X11 := X11.put6 (.bool (qn s)) (.slice A9 (digs (qt s)).length c9) (.slice M9 (digs (qd s)).length m9) (.bool false) (.slice none 0 0) (.slice Z2 1 z2)
              have OZ1 := OZ1.far6 hnZ1g11 (.bool (qn s)) (.slice A9 (digs (qt s)).length c9) (.slice M9 (digs (qd s)).length m9) (.bool false) (.slice none 0 0) (.slice Z2 1 z2)
              have OZ2 := OZ2.far6 hnZ2g11 (.bool (qn s)) (.slice A9 (digs (qt s)).length c9) (.slice M9 (digs (qd s)).length m9) (.bool false) (.slice none 0 0) (.slice Z2 1 z2)
              exact ⟨g10, g11, Z1, z1, Z2, z2, rfl, rfl, k13.nx BBb, X10, X11, O8.below BBb (Nat.le_refl _), P8.below BBb (Nat.le_refl _), OZ1.base_le hwc, O9.below BBb (Nat.le_refl _), P9.below BBb (Nat.le_refl _), OZ2.base_le hwc, by omega, by omega⟩
          · go_simp
            have X10 := SB.new w31 [.bool false, .slice none 0 0, .slice none 0 0, .bool false, .slice none 0 0, .slice none 0 0] 26
            have BX := bal w31 (.cells #[.bool false, .slice none 0 0, .slice none 0 0, .bool false, .slice none 0 0, .slice none 0 0] 26)
            have BB37 := bt BB31 BX
            have hwg10 : wc.heap.size ≤ w31.heap.size := BB31.size
            have hnZ1g10 : ∀ b, Z1 = some ⟨b, 0, none⟩ → b ≠ w31.heap.size := fun b hb => by subst hb; exact Nat.ne_of_lt OZ1.lt.2
            have OZ1 := OZ1.below BX (Nat.le_refl _)
            obtain ⟨w37, hw37⟩ : ∃ w37, w37 = w31.alloc (.cells #[.bool false, .slice none 0 0, .slice none 0 0, .bool false, .slice none 0 0, .slice none 0 0] 26) := ⟨_, rfl⟩
            rw [← hw37] at X10 BB37 OZ1 ⊢
            clear hw37 BX
            generalize w31.heap.size = g10 at *
            refine hK.out _ _ (.inr ⟨(s8.nx BB37).cell 0, (s8.nx BB37).cell 1, (s8.nx BB37).cell 2, (s9.nx BB37).cell 0, (s9.nx BB37).cell 1, (s9.nx BB37).cell 2⟩) (fun hHeld => ?_)
            have hHeld := hHeld.resolve_left (by decide)
            clear hK K
            try simp only [List.setIfInBounds_toArray, List.set_cons_zero, List.set_cons_succ]
            refine AnyU.two (i := 4) (j := 7) (by kernel_rfl) (USome.mk rfl (fun K hK => ?_)) (USome.mk rfl (fun K hK => ?_))
            · go_simp
              refine (hZ0 _).mono ?_; rintro e w38 ⟨Z2, z2, rfl, OZ2, BX⟩
              go_wp2_with fail
              have hnZ2g10 : ∀ b, Z2 = some ⟨b, 0, none⟩ → b ≠ g10 := fun b hb => by subst hb; have h1 := OZ2.lt.1; have h2 := X10.2; omega
              have OZ2 := OZ2.base_le (BB37.size)
              skip
              have X10 := X10.nx BX
              have OZ1 := OZ1.below BX (Nat.le_refl _)
              have BB38 := bt BB37 BX
              clear BX
              refine hK.out _ _ (.inr ⟨(s8.nx BB38).cell 0, (s8.nx BB38).cell 1, (s8.nx BB38).cell 2, (s9.nx BB38).cell 0, (s9.nx BB38).cell 1, (s9.nx BB38).cell 2⟩) (fun hHeld => ?_)
              have hHeld := hHeld.resolve_left (by decide)
              clear hK K
              try simp only [List.setIfInBounds_toArray, List.set_cons_zero, List.set_cons_succ]
              refine AnyU.next (i := 5) (v := ?_) hq' hns hHeld rfl rfl (by kernel_rfl) (Or.inl ⟨by rfl, ?_⟩) ?_
              rotate_left
              · intro w' hSw; (try dsimp only at hSw); go_simp <;> with_reducible rfl
              try simp only [List.setIfInBounds_toArray, List.set_cons_zero, List.set_cons_succ]
              refine AnyU.one 7 (by kernel_rfl) rfl (fun K hK => ?_)
              go_simp
              have X11 := SB.new w38 [.bool false, .slice none 0 0, .slice none 0 0, .bool false, .slice none 0 0, .slice none 0 0] 26
              have BX := bal w38 (.cells #[.bool false, .slice none 0 0, .slice none 0 0, .bool false, .slice none 0 0, .slice none 0 0] 26)
              have BB39 := bt BB38 BX
              have hwg11 : wc.heap.size ≤ w38.heap.size := BB38.size
              have hnZ1g11 : ∀ b, Z1 = some ⟨b, 0, none⟩ → b ≠ w38.heap.size := fun b hb => by subst hb; exact Nat.ne_of_lt OZ1.lt.2
              have hnZ2g11 : ∀ b, Z2 = some ⟨b, 0, none⟩ → b ≠ w38.heap.size := fun b hb => by subst hb; exact Nat.ne_of_lt OZ2.lt.2
              have hltg11 := X10.2
              have X10 := X10.nx BX
              have OZ1 := OZ1.below BX (Nat.le_refl _)
              have OZ2 := OZ2.below BX (Nat.le_refl _)
              obtain ⟨w39, hw39⟩ : ∃ w39, w39 = w38.alloc (.cells #[.bool false, .slice none 0 0, .slice none 0 0, .bool false, .slice none 0 0, .slice none 0 0] 26) := ⟨_, rfl⟩
              rw [← hw39] at X11 BB39 X10 OZ1 OZ2 ⊢
              clear hw39 BX
              generalize w38.heap.size = g11 at *
              refine hK.out _ _ (.inr ⟨(s8.nx BB39).cell 0, (s8.nx BB39).cell 1, (s8.nx BB39).cell 2, (s9.nx BB39).cell 0, (s9.nx BB39).cell 1, (s9.nx BB39).cell 2⟩) (fun hHeld => ?_)
              have hHeld := hHeld.resolve_left (by decide)
              clear hK K
              try simp only [List.setIfInBounds_toArray, List.set_cons_zero, List.set_cons_succ]
              have i0 := X10.cell 0
              have i1 := X10.cell 1
              have i2 := X10.cell 2
              have i3 := X10.cell 3
              have i4 := X10.cell 4
              have i5 := X10.cell 5
              have f0 := X10.frozen 0
              have f1 := X10.frozen 1
              have f2 := X10.frozen 2
              have f3 := X10.frozen 3
              have f4 := X10.frozen 4
              have f5 := X10.frozen 5
              refine AnyU.one 8 (by kernel_rfl) rfl (fun K hK => ?_)
              go_simp
              have BBa := wr6_below (b := g10) BB39 hwg10 (.bool (qn q)) (.slice A8' (digs (qt q)).length c8') (.slice M8' (digs (qd q)).length m8') (.bool false) (.slice none 0 0) (.slice Z1 1 z1)
              refine hK.out _ _ (.inr ⟨(s8.nx BBa).cell 0, (s8.nx BBa).cell 1, (s8.nx BBa).cell 2, (s9.nx BBa).cell 0, (s9.nx BBa).cell 1, (s9.nx BBa).cell 2⟩) (fun hHeld => ?_)
              have hHeld := hHeld.resolve_left (by decide)
              clear hK K hHeld
              try simp only [List.setIfInBounds_toArray, List.set_cons_zero, List.set_cons_succ]
              clear i0 i1 i2 i3 i4 i5 f0 f1 f2 f3 f4 f5
              have hne : g11 ≠ g10 := by omega
              have X11 := X11.wr6 (r := g10) hne (.bool (qn q)) (.slice A8' (digs (qt q)).length c8') (.slice M8' (digs (qd q)).length m8') (.bool false) (.slice none 0 0) (.slice Z1 1 z1)
              have X10 := X10.put6 (.bool (qn q)) (.slice A8' (digs (qt q)).length c8') (.slice M8' (digs (qd q)).length m8') (.bool false) (.slice none 0 0) (.slice Z1 1 z1)
              have OZ1 := OZ1.far6 hnZ1g10 (.bool (qn q)) (.slice A8' (digs (qt q)).length c8') (.slice M8' (digs (qd q)).length m8') (.bool false) (.slice none 0 0) (.slice Z1 1 z1)
              have OZ2 := OZ2.far6 hnZ2g10 (.bool (qn q)) (.slice A8' (digs (qt q)).length c8') (.slice M8' (digs (qd q)).length m8') (.bool false) (.slice none 0 0) (.slice Z1 1 z1)
              obtain ⟨Wa, hWa⟩ : ∃ Wa, ((((((w39.setCell ⟨g10, 0, none⟩ (.bool (qn q))).setCell ⟨g10, 1, none⟩ (.slice A8' (digs (qt q)).length c8')).setCell ⟨g10, 2, none⟩ (.slice M8' (digs (qd q)).length m8')).setCell ⟨g10, 3, none⟩ (.bool false)).setCell ⟨g10, 4, none⟩ (.slice none 0 0)).setCell ⟨g10, 5, none⟩ (.slice Z1 1 z1)) = Wa := ⟨_, rfl⟩
              rw [hWa]
              unfold wr6 wr3 at X10 X11 OZ1 OZ2 BBa
              rw [hWa] at X10 X11 OZ1 OZ2 BBa
              clear hWa
              have i0 := X11.cell 0
              have i1 := X11.cell 1
              have i2 := X11.cell 2
              have i3 := X11.cell 3
              have i4 := X11.cell 4
              have i5 := X11.cell 5
              have f0 := X11.frozen 0
              have f1 := X11.frozen 1
              have f2 := X11.frozen 2
              have f3 := X11.frozen 3
              have f4 := X11.frozen 4
              have f5 := X11.frozen 5
              refine AnyU.one 9 (by kernel_rfl) rfl (fun K hK => ?_)
              go_simp
              refine hK.out _ _ (.inl rfl) (fun _ => ?_)
              clear hK K
              try simp only [List.setIfInBounds_toArray, List.set_cons_zero, List.set_cons_succ]
              clear i0 i1 i2 i3 i4 i5 f0 f1 f2 f3 f4 f5
              refine AnyU.done (by kernel_rfl) (hQK.out _ _ ?_)
              go_wp2_with fail
              go_meet
              have BBb := wr6_below (b := g11) BBa hwg11 (.bool (qn s)) (.slice A9 (digs (qt s)).length c9) (.slice M9 (digs (qd s)).length m9) (.bool false) (.slice none 0 0) (.slice Z2 1 z2)
              have X10 := X10.wr6 (r := g11) (Ne.symm hne) (.bool (qn s)) (.slice A9 (digs (qt s)).length c9) (.slice M9 (digs (qd s)).length m9) (.bool false) (.slice none 0 0) (.slice Z2 1 z2)
              have X11 := X11.put6 (.bool (qn s)) (.slice A9 (digs (qt s)).length c9) (.slice M9 (digs (qd s)).length m9) (.bool false) (.slice none 0 0) (.slice Z2 1 z2)
              have OZ1 := OZ1.far6 hnZ1g11 (.bool (qn s)) (.slice A9 (digs (qt s)).length c9) (.slice M9 (digs (qd s)).length m9) (.bool false) (.slice none 0 0) (.slice Z2 1 z2)
              have OZ2 := OZ2.far6 hnZ2g11 (.bool (qn s)) (.slice A9 (digs (qt s)).length c9) (.slice M9 (digs (qd s)).length m9) (.bool false) (.slice none 0 0) (.slice Z2 1 z2)
              exact ⟨g10, g11, Z1, z1, Z2, z2, rfl, rfl, k13.nx BBb, X10, X11, O8.below BBb (Nat.le_refl _), P8.below BBb (Nat.le_refl _), OZ1.base_le hwc, O9.below BBb (Nat.le_refl _), P9.below BBb (Nat.le_refl _), OZ2.base_le hwc, by omega, by omega⟩
            · go_simp
              have X11 := SB.new w37 [.bool false, .slice none 0 0, .slice none 0 0, .bool false, .slice none 0 0, .slice none 0 0] 26
              have BX := bal w37 (.cells #[.bool false, .slice none 0 0, .slice none 0 0, .bool false, .slice none 0 0, .slice none 0 0] 26)
              have BB40 := bt BB37 BX
              have hwg11 : wc.heap.size ≤ w37.heap.size := BB37.size
              have hnZ1g11 : ∀ b, Z1 = some ⟨b, 0, none⟩ → b ≠ w37.heap.size := fun b hb => by subst hb; exact Nat.ne_of_lt OZ1.lt.2
              have hltg11 := X10.2
              have X10 := X10.nx BX
              have OZ1 := OZ1.below BX (Nat.le_refl _)
              obtain ⟨w40, hw40⟩ : ∃ w40, w40 = w37.alloc (.cells #[.bool false, .slice none 0 0, .slice none 0 0, .bool false, .slice none 0 0, .slice none 0 0] 26) := ⟨_, rfl⟩
              rw [← hw40] at X11 BB40 X10 OZ1 ⊢
              clear hw40 BX
              generalize w37.heap.size = g11 at *
              refine hK.out _ _ (.inr ⟨(s8.nx BB40).cell 0, (s8.nx BB40).cell 1, (s8.nx BB40).cell 2, (s9.nx BB40).cell 0, (s9.nx BB40).cell 1, (s9.nx BB40).cell 2⟩) (fun hHeld => ?_)
              have hHeld := hHeld.resolve_left (by decide)
              clear hK K
              try simp only [List.setIfInBounds_toArray, List.set_cons_zero, List.set_cons_succ]
              refine AnyU.one 4 (by kernel_rfl) rfl (fun K hK => ?_)
              go_simp
              refine (hZ0 _).mono ?_; rintro e w41 ⟨Z2, z2, rfl, OZ2, BX⟩
              go_wp2_with fail
              have hnZ2g10 : ∀ b, Z2 = some ⟨b, 0, none⟩ → b ≠ g10 := fun b hb => by subst hb; have h1 := OZ2.lt.1; have h2 := X10.2; omega
              have hnZ2g11 : ∀ b, Z2 = some ⟨b, 0, none⟩ → b ≠ g11 := fun b hb => by subst hb; have h1 := OZ2.lt.1; have h2 := X11.2; omega
              have OZ2 := OZ2.base_le (BB40.size)
              skip
              have X10 := X10.nx BX
              have X11 := X11.nx BX
              have OZ1 := OZ1.below BX (Nat.le_refl _)
              have BB41 := bt BB40 BX
              clear BX
              refine hK.out _ _ (.inr ⟨(s8.nx BB41).cell 0, (s8.nx BB41).cell 1, (s8.nx BB41).cell 2, (s9.nx BB41).cell 0, (s9.nx BB41).cell 1, (s9.nx BB41).cell 2⟩) (fun hHeld => ?_)
              have hHeld := hHeld.resolve_left (by decide)
              clear hK K
              try simp only [List.setIfInBounds_toArray, List.set_cons_zero, List.set_cons_succ]
              refine AnyU.next (i := 5) (v := ?_) hq' hns hHeld rfl rfl (by kernel_rfl) (Or.inl ⟨by rfl, ?_⟩) ?_
              rotate_left
              · intro w' hSw; (try dsimp only at hSw); go_simp <;> with_reducible rfl
              try simp only [List.setIfInBounds_toArray, List.set_cons_zero, List.set_cons_succ]
              have i0 := X10.cell 0
              have i1 := X10.cell 1
              have i2 := X10.cell 2
              have i3 := X10.cell 3
              have i4 := X10.cell 4
              have i5 := X10.cell 5
              have f0 := X10.frozen 0
              have f1 := X10.frozen 1
              have f2 := X10.frozen 2
              have f3 := X10.frozen 3
              have f4 := X10.frozen 4
              have f5 := X10.frozen 5
              refine AnyU.one 8 (by kernel_rfl) rfl (fun K hK => ?_)
              go_simp
              have BBa := wr6_below (b := g10) BB41 hwg10 (.bool (qn q)) (.slice A8' (digs (qt q)).length c8') (.slice M8' (digs (qd q)).length m8') (.bool false) (.slice none 0 0) (.slice Z1 1 z1)
              refine hK.out _ _ (.inr ⟨(s8.nx BBa).cell 0, (s8.nx BBa).cell 1, (s8.nx BBa).cell 2, (s9.nx BBa).cell 0, (s9.nx BBa).cell 1, (s9.nx BBa).cell 2⟩) (fun hHeld => ?_)
              have hHeld := hHeld.resolve_left (by decide)
              clear hK K hHeld
              try simp only [List.setIfInBounds_toArray, List.set_cons_zero, List.set_cons_succ]
              clear i0 i1 i2 i3 i4 i5 f0 f1 f2 f3 f4 f5
              have hne : g11 ≠ g10 := by omega
              have X11 := X11.wr6 (r := g10) hne (.bool (qn q)) (.slice A8' (digs (qt q)).length c8') (.slice M8' (digs (qd q)).length m8') (.bool false) (.slice none 0 0) (.slice Z1 1 z1)
              have X10 := X10.put6 (.bool (qn q)) (.slice A8' (digs (qt q)).length c8') (.slice M8' (digs (qd q)).length m8') (.bool false) (.slice none 0 0) (.slice Z1 1 z1)
              have OZ1 := OZ1.far6 hnZ1g10 (.bool (qn q)) (.slice A8' (digs (qt q)).length c8') (.slice M8' (digs (qd q)).length m8') (.bool false) (.slice none 0 0) (.slice Z1 1 z1)
              have OZ2 := OZ2.far6 hnZ2g10 (.bool (qn q)) (.slice A8' (digs (qt q)).length c8') (.slice M8' (digs (qd q)).length m8') (.bool false) (.slice none 0 0) (.slice Z1 1 z1)
              obtain ⟨Wa, hWa⟩ : ∃ Wa, ((((((w41.setCell ⟨g10, 0, none⟩ (.bool (qn q))).setCell ⟨g10, 1, none⟩ (.slice A8' (digs (qt q)).length c8')).setCell ⟨g10, 2, none⟩ (.slice M8' (digs (qd q)).length m8')).setCell ⟨g10, 3, none⟩ (.bool false)).setCell ⟨g10, 4, none⟩ (.slice none 0 0)).setCell ⟨g10, 5, none⟩ (.slice Z1 1 z1)) = Wa := ⟨_, rfl⟩
              rw [hWa]
              unfold wr6 wr3 at X10 X11 OZ1 OZ2 BBa
              rw [hWa] at X10 X11 OZ1 OZ2 BBa
              clear hWa
              have i0 := X11.cell 0
              have i1 := X11.cell 1
              have i2 := X11.cell 2
              have i3 := X11.cell 3
              have i4 := X11.cell 4
              have i5 := X11.cell 5
              have f0 := X11.frozen 0
              have f1 := X11.frozen 1
              have f2 := X11.frozen 2
              have f3 := X11.frozen 3
              have f4 := X11.frozen 4
              have f5 := X11.frozen 5
              refine AnyU.one 9 (by kernel_rfl) rfl (fun K hK => ?_)
              go_simp
              refine hK.out _ _ (.inl rfl) (fun _ => ?_)
              clear hK K
              try simp only [List.setIfInBounds_toArray, List.set_cons_zero, List.set_cons_succ]
              clear i0 i1 i2 i3 i4 i5 f0 f1 f2 f3 f4 f5
              refine AnyU.done (by kernel_rfl) (hQK.out _ _ ?_)
              go_wp2_with fail
              go_meet
              have BBb := wr6_below (b := g11) BBa hwg11 (.bool (qn s)) (.slice A9 (digs (qt s)).length c9) (.slice M9 (digs (qd s)).length m9) (.bool false) (.slice none 0 0) (.slice Z2 1 z2)
              have X10 := X10.wr6 (r := g11) (Ne.symm hne) (.bool (qn s)) (.slice A9 (digs (qt s)).length c9) (.slice M9 (digs (qd s)).length m9) (.bool false) (.slice none 0 0) (.slice Z2 1 z2)
              have X11 := X11.put6 (.bool (qn s)) (.slice A9 (digs (qt s)).length c9) (.slice M9 (digs (qd s)).length m9) (.bool false) (.slice none 0 0) (.slice Z2 1 z2)
              have OZ1 := OZ1.far6 hnZ1g11 (.bool (qn s)) (.slice A9 (digs (qt s)).length c9) (.slice M9 (digs (qd s)).length m9) (.bool false) (.slice none 0 0) (.slice Z2 1 z2)
              have OZ2 := OZ2.far6 hnZ2g11 (.bool (qn s)) (.slice A9 (digs (qt s)).length c9) (.slice M9 (digs (qd s)).length m9) (.bool false) (.slice none 0 0) (.slice Z2 1 z2)
              exact ⟨g10, g11, Z1, z1, Z2, z2, rfl, rfl, k13.nx BBb, X10, X11, O8.below BBb (Nat.le_refl _), P8.below BBb (Nat.le_refl _), OZ1.base_le hwc, O9.below BBb (Nat.le_refl _), P9.below BBb (Nat.le_refl _), OZ2.base_le hwc, by omega, by omega⟩
          · go_simp
            have X11 := SB.new w31 [.bool false, .slice none 0 0, .slice none 0 0, .bool false, .slice none 0 0, .slice none 0 0] 26
            have BX := bal w31 (.cells #[.bool false, .slice none 0 0, .slice none 0 0, .bool false, .slice none 0 0, .slice none 0 0] 26)
            have BB42 := bt BB31 BX
            have hwg11 : wc.heap.size ≤ w31.heap.size := BB31.size
            have hnZ1g11 : ∀ b, Z1 = some ⟨b, 0, none⟩ → b ≠ w31.heap.size := fun b hb => by subst hb; exact Nat.ne_of_lt OZ1.lt.2
            have OZ1 := OZ1.below BX (Nat.le_refl _)
            obtain ⟨w42, hw42⟩ : ∃ w42, w42 = w31.alloc (.cells #[.bool false, .slice none 0 0, .slice none 0 0, .bool false, .slice none 0 0, .slice none 0 0] 26) := ⟨_, rfl⟩
            rw [← hw42] at X11 BB42 OZ1 ⊢
            clear hw42 BX
            generalize w31.heap.size = g11 at *
            refine hK.out _ _ (.inr ⟨(s8.nx BB42).cell 0, (s8.nx BB42).cell 1, (s8.nx BB42).cell 2, (s9.nx BB42).cell 0, (s9.nx BB42).cell 1, (s9.nx BB42).cell 2⟩) (fun hHeld => ?_)
            have hHeld := hHeld.resolve_left (by decide)
            clear hK K
            try simp only [List.setIfInBounds_toArray, List.set_cons_zero, List.set_cons_succ]
            refine AnyU.two (i := 4) (j := 6) (by kernel_rfl) (USome.mk rfl (fun K hK => ?_)) (USome.mk rfl (fun K hK => ?_))
            · go_simp
              refine (hZ0 _).mono ?_; rintro e w43 ⟨Z2, z2, rfl, OZ2, BX⟩
              go_wp2_with fail
              have hnZ2g11 : ∀ b, Z2 = some ⟨b, 0, none⟩ → b ≠ g11 := fun b hb => by subst hb; have h1 := OZ2.lt.1; have h2 := X11.2; omega
              have OZ2 := OZ2.base_le (BB42.size)
              skip
              have X11 := X11.nx BX
              have OZ1 := OZ1.below BX (Nat.le_refl _)
              have BB43 := bt BB42 BX
              clear BX
              refine hK.out _ _ (.inr ⟨(s8.nx BB43).cell 0, (s8.nx BB43).cell 1, (s8.nx BB43).cell 2, (s9.nx BB43).cell 0, (s9.nx BB43).cell 1, (s9.nx BB43).cell 2⟩) (fun hHeld => ?_)
              have hHeld := hHeld.resolve_left (by decide)
              clear hK K
              try simp only [List.setIfInBounds_toArray, List.set_cons_zero, List.set_cons_succ]
              refine AnyU.next (i := 5) (v := ?_) hq' hns hHeld rfl rfl (by kernel_rfl) (Or.inl ⟨by rfl, ?_⟩) ?_
              rotate_left
              · intro w' hSw; (try dsimp only at hSw); go_simp <;> with_reducible rfl
              try simp only [List.setIfInBounds_toArray, List.set_cons_zero, List.set_cons_succ]
              refine AnyU.one 6 (by kernel_rfl) rfl (fun K hK => ?_)
              go_simp
              have X10 := SB.new w43 [.bool false, .slice none 0 0, .slice none 0 0, .bool false, .slice none 0 0, .slice none 0 0] 26
              have BX := bal w43 (.cells #[.bool false, .slice none 0 0, .slice none 0 0, .bool false, .slice none 0 0, .slice none 0 0] 26)
              have BB44 := bt BB43 BX
              have hwg10 : wc.heap.size ≤ w43.heap.size := BB43.size
              have hnZ1g10 : ∀ b, Z1 = some ⟨b, 0, none⟩ → b ≠ w43.heap.size := fun b hb => by subst hb; exact Nat.ne_of_lt OZ1.lt.2
              have hnZ2g10 : ∀ b, Z2 = some ⟨b, 0, none⟩ → b ≠ w43.heap.size := fun b hb => by subst hb; exact Nat.ne_of_lt OZ2.lt.2
              have hltg10 := X11.2
              have X11 := X11.nx BX
              have OZ1 := OZ1.below BX (Nat.le_refl _)
              have OZ2 := OZ2.below BX (Nat.le_refl _)
              obtain ⟨w44, hw44⟩ : ∃ w44, w44 = w43.alloc (.cells #[.bool false, .slice none 0 0, .slice none 0 0, .bool false, .slice none 0 0, .slice none 0 0] 26) := ⟨_, rfl⟩
              rw [← hw44] at X10 BB44 X11 OZ1 OZ2 ⊢
              clear hw44 BX
              generalize w43.heap.size = g10 at *
              refine hK.out _ _ (.inr ⟨(s8.nx BB44).cell 0, (s8.nx BB44).cell 1, (s8.nx BB44).cell 2, (s9.nx BB44).cell 0, (s9.nx BB44).cell 1, (s9.nx BB44).cell 2⟩) (fun hHeld => ?_)
              have hHeld := hHeld.resolve_left (by decide)
              clear hK K
              try simp only [List.setIfInBounds_toArray, List.set_cons_zero, List.set_cons_succ]
              have i0 := X10.cell 0
              have i1 := X10.cell 1
              have i2 := X10.cell 2
              have i3 := X10.cell 3
              have i4 := X10.cell 4
              have i5 := X10.cell 5
              have f0 := X10.frozen 0
              have f1 := X10.frozen 1
              have f2 := X10.frozen 2
              have f3 := X10.frozen 3
              have f4 := X10.frozen 4
              have f5 := X10.frozen 5
              refine AnyU.one 8 (by kernel_rfl) rfl (fun K hK => ?_)
              go_simp
              have BBa := wr6_below (b := g10) BB44 hwg10 (.bool (qn q)) (.slice A8' (digs (qt q)).length c8') (.slice M8' (digs (qd q)).length m8') (.bool false) (.slice none 0 0) (.slice Z1 1 z1)
              refine hK.out _ _ (.inr ⟨(s8.nx BBa).cell 0, (s8.nx BBa).cell 1, (s8.nx BBa).cell 2, (s9.nx BBa).cell 0, (s9.nx BBa).cell 1, (s9.nx BBa).cell 2⟩) (fun hHeld => ?_)
              have hHeld := hHeld.resolve_left (by decide)
              clear hK K hHeld
              try simp only [List.setIfInBounds_toArray, List.set_cons_zero, List.set_cons_succ]
              clear i0 i1 i2 i3 i4 i5 f0 f1 f2 f3 f4 f5
              have hne : g11 ≠ g10 := by omega
              have X11 := X11.wr6 (r := g10) hne (.bool (qn q)) (.slice A8' (digs (qt q)).length c8') (.slice M8' (digs (qd q)).length m8') (.bool false) (.slice none 0 0) (.slice Z1 1 z1)
              have X10 := X10.put6 (.bool (qn q)) (.slice A8' (digs (qt q)).length c8') (.slice M8' (digs (qd q)).length m8') (.bool false) (.slice none 0 0) (.slice Z1 1 z1)
              have OZ1 := OZ1.far6 hnZ1g10 (.bool (qn q)) (.slice A8' (digs (qt q)).length c8') (.slice M8' (digs (qd q)).length m8') (.bool false) (.slice none 0 0) (.slice Z1 1 z1)
              have OZ2 := OZ2.far6 hnZ2g10 (.bool (qn q)) (.slice A8' (digs (qt q)).length c8') (.slice M8' (digs (qd q)).length m8') (.bool false) (.slice none 0 0) (.slice Z1 1 z1)
              obtain ⟨Wa, hWa⟩ : ∃ Wa, ((((((w44.setCell ⟨g10, 0, none⟩ (.bool (qn q))).setCell ⟨g10, 1, none⟩ (.slice A8' (digs (qt q)).length c8')).setCell ⟨g10, 2, none⟩ (.slice M8' (digs (qd q)).length m8')).setCell ⟨g10, 3, none⟩ (.bool false)).setCell ⟨g10, 4, none⟩ (.slice none 0 0)).setCell ⟨g10, 5, none⟩ (.slice Z1 1 z1)) = Wa := ⟨_, rfl⟩
              rw [hWa]
              unfold wr6 wr3 at X10 X11 OZ1 OZ2 BBa
              rw [hWa] at X10 X11 OZ1 OZ2 BBa
              clear hWa
              have i0 := X11.cell 0
              have i1 := X11.cell 1
              have i2 := X11.cell 2
              have i3 := X11.cell 3
              have i4 := X11.cell 4
              have i5 := X11.cell 5
              have f0 := X11.frozen 0
              have f1 := X11.frozen 1
              have f2 := X11.frozen 2
              have f3 := X11.frozen 3
              have f4 := X11.frozen 4
              have f5 := X11.frozen 5
              refine AnyU.one 9 (by kernel_rfl) rfl (fun K hK => ?_)
              go_simp
              refine hK.out _ _ (.inl rfl) (fun _ => ?_)
              clear hK K
              try simp only [List.setIfInBounds_toArray, List.set_cons_zero, List.set_cons_succ]
              clear i0 i1 i2 i3 i4 i5 f0 f1 f2 f3 f4 f5
              refine AnyU.done (by kernel_rfl) (hQK.out _ _ ?_)
              go_wp2_with fail
              go_meet
              have BBb := wr6_below (b := g11) BBa hwg11 (.bool (qn s)) (.slice A9 (digs (qt s)).length c9) (.slice M9 (digs (qd s)).length m9) (.bool false) (.slice none 0 0) (.slice Z2 1 z2)
              have X10 := X10.wr6 (r := g11) (Ne.symm hne) (.bool (qn s)) (.slice A9 (digs (qt s)).length c9) (.slice M9 (digs (qd s)).length m9) (.bool false) (.slice none 0 0) (.slice Z2 1 z2)
              have X11 := X11.put6 (.bool (qn s)) (.slice A9 (digs (qt s)).length c9) (.slice M9 (digs (qd s)).length m9) (.bool false) (.slice none 0 0) (.slice Z2 1 z2)
              have OZ1 := OZ1.far6 hnZ1g11 (.bool (qn s)) (.slice A9 (digs (qt s)).length c9) (.slice M9 (digs (qd s)).length m9) (.bool false) (.slice none 0 0) (.slice Z2 1 z2)
              have OZ2 := OZ2.far6 hnZ2g11 (.bool (qn s)) (.slice A9 (digs (qt s)).length c9) (.slice M9 (digs (qd s)).length m9) (.bool false) (.slice none 0 0) (.slice Z2 1 z2)
              exact ⟨g10, g11, Z1, z1, Z2, z2, rfl, rfl, k13.nx BBb, X10, X11, O8.below BBb (Nat.le_refl _), P8.below BBb (Nat.le_refl _), OZ1.base_le hwc, O9.below BBb (Nat.le_refl _), P9.below BBb (Nat.le_refl _), OZ2.base_le hwc, by omega, by omega⟩
            · go_simp
              have X10 := SB.new w42 [.bool false, .slice none 0 0, .slice none 0 0, .bool false, .slice none 0 0, .slice none 0 0] 26
              have BX := bal w42 (.cells #[.bool false, .slice none 0 0, .slice none 0 0, .bool false, .slice none 0 0, .slice none 0 0] 26)
              have BB45 := bt BB42 BX
              have hwg10 : wc.heap.size ≤ w42.heap.size := BB42.size
              have hnZ1g10 : ∀ b, Z1 = some ⟨b, 0, none⟩ → b ≠ w42.heap.size := fun b hb => by subst hb; exact Nat.ne_of_lt OZ1.lt.2
              have hltg10 := X11.2
              have X11 := X11.nx BX
              have OZ1 := OZ1.below BX (Nat.le_refl _)
              obtain ⟨w45, hw45⟩ : ∃ w45, w45 = w42.alloc (.cells #[.bool false, .slice none 0 0, .slice none 0 0, .bool false, .slice none 0 0, .slice none 0 0] 26) := ⟨_, rfl⟩
              rw [← hw45] at X10 BB45 X11 OZ1 ⊢
              clear hw45 BX
              generalize w42.heap.size = g10 at *
              refine hK.out _ _ (.inr ⟨(s8.nx BB45).cell 0, (s8.nx BB45).cell 1, (s8.nx BB45).cell 2, (s9.nx BB45).cell 0, (s9.nx BB45).cell 1, (s9.nx BB45).cell 2⟩) (fun hHeld => ?_)
              have hHeld := hHeld.resolve_left (by decide)
              clear hK K
              try simp only [List.setIfInBounds_toArray, List.set_cons_zero, List.set_cons_succ]
              refine AnyU.one 4 (by kernel_rfl) rfl (fun K hK => ?_)
              go_simp
              refine (hZ0 _).mono ?_; rintro e w46 ⟨Z2, z2, rfl, OZ2, BX⟩
              go_wp2_with fail
              have hnZ2g11 : ∀ b, Z2 = some ⟨b, 0, none⟩ → b ≠ g11 := fun b hb => by subst hb; have h1 := OZ2.lt.1; have h2 := X11.2; omega
              have hnZ2g10 : ∀ b, Z2 = some ⟨b, 0, none⟩ → b ≠ g10 := fun b hb => by subst hb; have h1 := OZ2.lt.1; have h2 := X10.2; omega
              have OZ2 := OZ2.base_le (BB45.size)
              skip
              have X11 := X11.nx BX
              have X10 := X10.nx BX
              have OZ1 := OZ1.below BX (Nat.le_refl _)
              have BB46 := bt BB45 BX
              clear BX
              refine hK.out _ _ (.inr ⟨(s8.nx BB46).cell 0, (s8.nx BB46).cell 1, (s8.nx BB46).cell 2, (s9.nx BB46).cell 0, (s9.nx BB46).cell 1, (s9.nx BB46).cell 2⟩) (fun hHeld => ?_)
              have hHeld := hHeld.resolve_left (by decide)
              clear hK K
              try simp only [List.setIfInBounds_toArray, List.set_cons_zero, List.set_cons_succ]
              refine AnyU.next (i := 5) (v := ?_) hq' hns hHeld rfl rfl (by kernel_rfl) (Or.inl ⟨by rfl, ?_⟩) ?_
              rotate_left
              · intro w' hSw; (try dsimp only at hSw); go_simp <;> with_reducible rfl
              try simp only [List.setIfInBounds_toArray, List.set_cons_zero, List.set_cons_succ]
              have i0 := X10.cell 0
              have i1 := X10.cell 1
              have i2 := X10.cell 2
              have i3 := X10.cell 3
              have i4 := X10.cell 4
              have i5 := X10.cell 5
              have f0 := X10.frozen 0
              have f1 := X10.frozen 1
              have f2 := X10.frozen 2
              have f3 := X10.frozen 3
              have f4 := X10.frozen 4
              have f5 := X10.frozen 5
              refine AnyU.one 8 (by kernel_rfl) rfl (fun K hK => ?_)
              go_simp
              have BBa := wr6_below (b := g10) BB46 hwg10 (.bool (qn q)) (.slice A8' (digs (qt q)).length c8') (.slice M8' (digs (qd q)).length m8') (.bool false) (.slice none 0 0) (.slice Z1 1 z1)
              refine hK.out _ _ (.inr ⟨(s8.nx BBa).cell 0, (s8.nx BBa).cell 1, (s8.nx BBa).cell 2, (s9.nx BBa).cell 0, (s9.nx BBa).cell 1, (s9.nx BBa).cell 2⟩) (fun hHeld => ?_)
              have hHeld := hHeld.resolve_left (by decide)
              clear hK K hHeld
              try simp only [List.setIfInBounds_toArray, List.set_cons_zero, List.set_cons_succ]
              clear i0 i1 i2 i3 i4 i5 f0 f1 f2 f3 f4 f5
              have hne : g11 ≠ g10 := by omega
              have X11 := X11.wr6 (r := g10) hne (.bool (qn q)) (.slice A8' (digs (qt q)).length c8') (.slice M8' (digs (qd q)).length m8') (.bool false) (.slice none 0 0) (.slice Z1 1 z1)
              have X10 := X10.put6 (.bool (qn q)) (.slice A8' (digs (qt q)).length c8') (.slice M8' (digs (qd q)).length m8') (.bool false) (.slice none 0 0) (.slice Z1 1 z1)
              have OZ1 := OZ1.far6 hnZ1g10 (.bool (qn q)) (.slice A8' (digs (qt q)).length c8') (.slice M8' (digs (qd q)).length m8') (.bool false) (.slice none 0 0) (.slice Z1 1 z1)
              have OZ2 := OZ2.far6 hnZ2g10 (.bool (qn q)) (.slice A8' (digs (qt q)).length c8') (.slice M8' (digs (qd q)).length m8') (.bool false) (.slice none 0 0) (.slice Z1 1 z1)
              obtain ⟨Wa, hWa⟩ : ∃ Wa, ((((((w46.setCell ⟨g10, 0, none⟩ (.bool (qn q))).setCell ⟨g10, 1, none⟩ (.slice A8' (digs (qt q)).length c8')).setCell ⟨g10, 2, none⟩ (.slice M8' (digs (qd q)).length m8')).setCell ⟨g10, 3, none⟩ (.bool false)).setCell ⟨g10, 4, none⟩ (.slice none 0 0)).setCell ⟨g10, 5, none⟩ (.slice Z1 1 z1)) = Wa := ⟨_, rfl⟩
              rw [hWa]
              unfold wr6 wr3 at X10 X11 OZ1 OZ2 BBa
              rw [hWa] at X10 X11 OZ1 OZ2 BBa
              clear hWa
              have i0 := X11.cell 0
              have i1 := X11.cell 1
              have i2 := X11.cell 2
              have i3 := X11.cell 3
              have i4 := X11.cell 4
              have i5 := X11.cell 5
              have f0 := X11.frozen 0
              have f1 := X11.frozen 1
              have f2 := X11.frozen 2
              have f3 := X11.frozen 3
              have f4 := X11.frozen 4
              have f5 := X11.frozen 5
              refine AnyU.one 9 (by kernel_rfl) rfl (fun K hK => ?_)
              go_simp
              refine hK.out _ _ (.inl rfl) (fun _ => ?_)
              clear hK K
              try simp only [List.setIfInBounds_toArray, List.set_cons_zero, List.set_cons_succ]
              clear i0 i1 i2 i3 i4 i5 f0 f1 f2 f3 f4 f5
              refine AnyU.done (by kernel_rfl) (hQK.out _ _ ?_)
              go_wp2_with fail
              go_meet
              have BBb := wr6_below (b := g11) BBa hwg11 (.bool (qn s)) (.slice A9 (digs (qt s)).length c9) (.slice M9 (digs (qd s)).length m9) (.bool false) (.slice none 0 0) (.slice Z2 1 z2)
              have X10 := X10.wr6 (r := g11) (Ne.symm hne) (.bool (qn s)) (.slice A9 (digs (qt s)).length c9) (.slice M9 (digs (qd s)).length m9) (.bool false) (.slice none 0 0) (.slice Z2 1 z2)
              have X11 := X11.put6 (.bool (qn s)) (.slice A9 (digs (qt s)).length c9) (.slice M9 (digs (qd s)).length m9) (.bool false) (.slice none 0 0) (.slice Z2 1 z2)
              have OZ1 := OZ1.far6 hnZ1g11 (.bool (qn s)) (.slice A9 (digs (qt s)).length c9) (.slice M9 (digs (qd s)).length m9) (.bool false) (.slice none 0 0) (.slice Z2 1 z2)
              have OZ2 := OZ2.far6 hnZ2g11 (.bool (qn s)) (.slice A9 (digs (qt s)).length c9) (.slice M9 (digs (qd s)).length m9) (.bool false) (.slice none 0 0) (.slice Z2 1 z2)
              exact ⟨g10, g11, Z1, z1, Z2, z2, rfl, rfl, k13.nx BBb, X10, X11, O8.below BBb (Nat.le_refl _), P8.below BBb (Nat.le_refl _), OZ1.base_le hwc, O9.below BBb (Nat.le_refl _), P9.below BBb (Nat.le_refl _), OZ2.base_le hwc, by omega, by omega⟩
        · go_simp
          have X10 := SB.new w30 [.bool false, .slice none 0 0, .slice none 0 0, .bool false, .slice none 0 0, .slice none 0 0] 26
          have BX := bal w30 (.cells #[.bool false, .slice none 0 0, .slice none 0 0, .bool false, .slice none 0 0, .slice none 0 0] 26)
          have BB47 := bt BB0 BX
          have hwg10 : wc.heap.size ≤ w30.heap.size := BB0.size
          obtain ⟨w47, hw47⟩ : ∃ w47, w47 = w30.alloc (.cells #[.bool false, .slice none 0 0, .slice none 0 0, .bool false, .slice none 0 0, .slice none 0 0] 26) := ⟨_, rfl⟩
          rw [← hw47] at X10 BB47 ⊢
          clear hw47 BX
          generalize w30.heap.size = g10 at *
          refine hK.out _ _ (.inr ⟨(s8.nx BB47).cell 0, (s8.nx BB47).cell 1, (s8.nx BB47).cell 2, (s9.nx BB47).cell 0, (s9.nx BB47).cell 1, (s9.nx BB47).cell 2⟩) (fun hHeld => ?_)
          have hHeld := hHeld.resolve_left (by decide)
          clear hK K
          try simp only [List.setIfInBounds_toArray, List.set_cons_zero, List.set_cons_succ]
          refine AnyU.two (i := 1) (j := 7) (by kernel_rfl) (USome.mk rfl (fun K hK => ?_)) (USome.mk rfl (fun K hK => ?_))
          · go_simp
            refine (hZ0 _).mono ?_; rintro e w48 ⟨Z1, z1, rfl, OZ1, BX⟩
            go_wp2_with fail
            have hnZ1g10 : ∀ b, Z1 = some ⟨b, 0, none⟩ → b ≠ g10 := fun b hb => by subst hb; have h1 := OZ1.lt.1; have h2 := X10.2; omega
            have OZ1 := OZ1.base_le (BB47.size)
            skip
            have X10 := X10.nx BX
            have BB48 := bt BB47 BX
            clear BX
            refine hK.out _ _ (.inr ⟨(s8.nx BB48).cell 0, (s8.nx BB48).cell 1, (s8.nx BB48).cell 2, (s9.nx BB48).cell 0, (s9.nx BB48).cell 1, (s9.nx BB48).cell 2⟩) (fun hHeld => ?_)
            have hHeld := hHeld.resolve_left (by decide)
            clear hK K
            try simp only [List.setIfInBounds_toArray, List.set_cons_zero, List.set_cons_succ]
            refine AnyU.next (i := 2) (v := ?_) hq' hns hHeld rfl rfl (by kernel_rfl) (Or.inl ⟨by rfl, ?_⟩) ?_
            rotate_left
            · intro w' hSw; (try dsimp only at hSw); go_simp <;> with_reducible rfl
            try simp only [List.setIfInBounds_toArray, List.set_cons_zero, List.set_cons_succ]
            refine AnyU.two (i := 4) (j := 7) (by kernel_rfl) (USome.mk rfl (fun K hK => ?_)) (USome.mk rfl (fun K hK => ?_))
            · go_simp
              refine (hZ0 _).mono ?_; rintro e w49 ⟨Z2, z2, rfl, OZ2, BX⟩
              go_wp2_with fail
              have hnZ2g10 : ∀ b, Z2 = some ⟨b, 0, none⟩ → b ≠ g10 := fun b hb => by subst hb; have h1 := OZ2.lt.1; have h2 := X10.2; omega
              have OZ2 := OZ2.base_le (BB48.size)
              skip
              have X10 := X10.nx BX
              have OZ1 := OZ1.below BX (Nat.le_refl _)
              have BB49 := bt BB48 BX
              clear BX
              refine hK.out _ _ (.inr ⟨(s8.nx BB49).cell 0, (s8.nx BB49).cell 1, (s8.nx BB49).cell 2, (s9.nx BB49).cell 0, (s9.nx BB49).cell 1, (s9.nx BB49).cell 2⟩) (fun hHeld => ?_)
              have hHeld := hHeld.resolve_left (by decide)
              clear hK K
              try simp only [List.setIfInBounds_toArray, List.set_cons_zero, List.set_cons_succ]
              refine AnyU.next (i := 5) (v := ?_) hq' hns hHeld rfl rfl (by kernel_rfl) (Or.inl ⟨by rfl, ?_⟩) ?_
              rotate_left
              · intro w' hSw; (try dsimp only at hSw); go_simp <;> with_reducible rfl
              try simp only [List.setIfInBounds_toArray, List.set_cons_zero, List.set_cons_succ]
              refine AnyU.one 7 (by kernel_rfl) rfl (fun K hK => ?_)
              go_simp
              have X11 := SB.new w49 [.bool false, .slice none 0 0, .slice none 0 0, .bool false, .slice none 0 0, .slice none 0 0] 26
              have BX := bal w49 (.cells #[.bool false, .slice none 0 0, .slice none 0 0, .bool false, .slice none 0 0, .slice none 0 0] 26)
              have BB50 := bt BB49 BX
              have hwg11 : wc.heap.size ≤ w49.heap.size := BB49.size
              have hnZ1g11 : ∀ b, Z1 = some ⟨b, 0, none⟩ → b ≠ w49.heap.size := fun b hb => by subst hb; exact Nat.ne_of_lt OZ1.lt.2
              have hnZ2g11 : ∀ b, Z2 = some ⟨b, 0, none⟩ → b ≠ w49.heap.size := fun b hb => by subst hb; exact Nat.ne_of_lt OZ2.lt.2
              have hltg11 := X10.2
              have X10 := X10.nx BX
              have OZ1 := OZ1.below BX (Nat.le_refl _)
              have OZ2 := OZ2.below BX (Nat.le_refl _)
              obtain ⟨w50, hw50⟩ : ∃ w50, w50 = w49.alloc (.cells #[.bool false, .slice none 0 0, .slice none 0 0, .bool false, .slice none 0 0, .slice none 0 0] 26) := ⟨_, rfl⟩
              rw [← hw50] at X11 BB50 X10 OZ1 OZ2 ⊢
              clear hw50 BX
              generalize w49.heap.size = g11 at *
              refine hK.out _ _ (.inr ⟨(s8.nx BB50).cell 0, (s8.nx BB50).cell 1, (s8.nx BB50).cell 2, (s9.nx BB50).cell 0, (s9.nx BB50).cell 1, (s9.nx BB50).cell 2⟩) (fun hHeld => ?_)
              have hHeld := hHeld.resolve_left (by decide)
              clear hK K
              try simp only [List.setIfInBounds_toArray, List.set_cons_zero, List.set_cons_succ]
              have i0 := X10.cell 0
              have i1 := X10.cell 1
              have i2 := X10.cell 2
              have i3 := X10.cell 3
              have i4 := X10.cell 4
              have i5 := X10.cell 5
              have f0 := X10.frozen 0
              have f1 := X10.frozen 1
              have f2 := X10.frozen 2
              have f3 := X10.frozen 3
              have f4 := X10.frozen 4
              have f5 := X10.frozen 5
              refine AnyU.one 8 (by kernel_rfl) rfl (fun K hK => ?_)
              go_simp
              have BBa := wr6_below (b := g10) BB50 hwg10 (.bool (qn q)) (.slice A8' (digs (qt q)).length c8') (.slice M8' (digs (qd q)).length m8') (.bool false) (.slice none 0 0) (.slice Z1 1 z1)
              refine hK.out _ _ (.inr ⟨(s8.nx BBa).cell 0, (s8.nx BBa).cell 1, (s8.nx BBa).cell 2, (s9.nx BBa).cell 0, (s9.nx BBa).cell 1, (s9.nx BBa).cell 2⟩) (fun hHeld => ?_)
              have hHeld := hHeld.resolve_left (by decide)
              clear hK K hHeld
              try simp only [List.setIfInBounds_toArray, List.set_cons_zero, List.set_cons_succ]
              clear i0 i1 i2 i3 i4 i5 f0 f1 f2 f3 f4 f5
              have hne : g11 ≠ g10 := by omega
              have X11 := X11.wr6 (r := g10) hne (.bool (qn q)) (.slice A8' (digs (qt q)).length c8') (.slice M8' (digs (qd q)).length m8') (.bool false) (.slice none 0 0) (.slice Z1 1 z1)
              have X10 := X10.put6 (.bool (qn q)) (.slice A8' (digs (qt q)).length c8') (.slice M8' (digs (qd q)).length m8') (.bool false) (.slice none 0 0) (.slice Z1 1 z1)
              have OZ1 := OZ1.far6 hnZ1g10 (.bool (qn q)) (.slice A8' (digs (qt q)).length c8') (.slice M8' (digs (qd q)).length m8') (.bool false) (.slice none 0 0) (.slice Z1 1 z1)
              have OZ2 := OZ2.far6 hnZ2g10 (.bool (qn q)) (.slice A8' (digs (qt q)).length c8') (.slice M8' (digs (qd q)).length m8') (.bool false) (.slice none 0 0) (.slice Z1 1 z1)
              obtain ⟨Wa, hWa⟩ : ∃ Wa, ((((((w50.setCell ⟨g10, 0, none⟩ (.bool (qn q))).setCell ⟨g10, 1, none⟩ (.slice A8' (digs (qt q)).length c8')).setCell ⟨g10, 2, none⟩ (.slice M8' (digs (qd q)).length m8')).setCell ⟨g10, 3, none⟩ (.bool false)).setCell ⟨g10, 4, none⟩ (.slice none 0 0)).setCell ⟨g10, 5, none⟩ (.slice Z1 1 z1)) = Wa := ⟨_, rfl⟩
              rw [hWa]
              unfold wr6 wr3 at X10 X11 OZ1 OZ2 BBa
              rw [hWa] at X10 X11 OZ1 OZ2 BBa
              clear hWa
              have i0 := X11.cell 0
              have i1 := X11.cell 1
              have i2 := X11.cell 2
              have i3 := X11.cell 3
              have i4 := X11.cell 4
              have i5 := X11.cell 5
              have f0 := X11.frozen 0
              have f1 := X11.frozen 1
              have f2 := X11.frozen 2
              have f3 := X11.frozen 3
              have f4 := X11.frozen 4
              have f5 := X11.frozen 5
              refine AnyU.one 9 (by kernel_rfl) rfl (fun K hK => ?_)
              go_simp
              refine hK.out _ _ (.inl rfl) (fun _ => ?_)
              clear hK K
              try simp only [List.setIfInBounds_toArray, List.set_cons_zero, List.set_cons_succ]
              clear i0 i1 i2 i3 i4 i5 f0 f1 f2 f3 f4 f5
              refine AnyU.done (by kernel_rfl) (hQK.out _ _ ?_)
              go_wp2_with fail
              go_meet
              have BBb := wr6_below (b := g11) BBa hwg11 (.bool (qn s)) (.slice A9 (digs (qt s)).length c9) (.slice M9 (digs (qd s)).length m9) (.bool false) (.slice none 0 0) (.slice Z2 1 z2)
              have X10 := X10.wr6 (r := g11) (Ne.symm hne) (.bool (qn s)) (.slice A9 (digs (qt s)).length c9) (.slice M9 (digs (qd s)).length m9) (.bool false) (.slice none 0 0) (.slice Z2 1 z2)
              have X11 := X11.put6 (.bool (qn s)) (.slice A9 (digs (qt s)).length c9) (.slice M9 (digs (qd s)).length m9) (.bool false) (.slice none 0 0) (.slice Z2 1 z2)
              have OZ1 := OZ1.far6 hnZ1g11 (.bool (qn s)) (.slice A9 (digs (qt s)).length c9) (.slice M9 (digs (qd s)).length m9) (.bool false) (.slice none 0 0) (.slice Z2 1 z2)
              have OZ2 := OZ2.far6 hnZ2g11 (.bool (qn s)) (.slice A9 (digs (qt s)).length c9) (.slice M9 (digs (qd s)).length m9) (.bool false) (.slice none 0 0) (.slice Z2 1 z2)
              exact ⟨g10, g11, Z1, z1, Z2, z2, rfl, rfl, k13.nx BBb, X10, X11, O8.below BBb (Nat.le_refl _), P8.below BBb (Nat.le_refl _), OZ1.base_le hwc, O9.below BBb (Nat.le_refl _), P9.below BBb (Nat.le_refl _), OZ2.base_le hwc, by omega, by omega⟩
            · go_simp
              have X11 := SB.new w48 [.bool false, .slice none 0 0, .slice none 0 0, .bool false, .slice none 0 0, .slice none 0 0] 26
              have BX := bal w48 (.cells #[.bool false, .slice none 0 0, .slice none 0 0, .bool false, .slice none 0 0, .slice none 0 0] 26)
              have BB51 := bt BB48 BX
              have hwg11 : wc.heap.size ≤ w48.heap.size := BB48.size
              have hnZ1g11 : ∀ b, Z1 = some ⟨b, 0, none⟩ → b ≠ w48.heap.size := fun b hb => by subst hb; exact Nat.ne_of_lt OZ1.lt.2
              have hltg11 := X10.2
              have X10 := X10.nx BX
              have OZ1 := OZ1.below BX (Nat.le_refl _)
              obtain ⟨w51, hw51⟩ : ∃ w51, w51 = w48.alloc (.cells #[.bool false, .slice none 0 0, .slice none 0 0, .bool false, .slice none 0 0, .slice none 0 0] 26) := ⟨_, rfl⟩
              rw [← hw51] at X11 BB51 X10 OZ1 ⊢
              clear hw51 BX
              generalize w48.heap.size = g11 at *
              refine hK.out _ _ (.inr ⟨(s8.nx BB51).cell 0, (s8.nx BB51).cell 1, (s8.nx BB51).cell 2, (s9.nx BB51).cell 0, (s9.nx BB51).cell 1, (s9.nx BB51).cell 2⟩) (fun hHeld => ?_)
              have hHeld := hHeld.resolve_left (by decide)
              clear hK K
              try simp only [List.setIfInBounds_toArray, List.set_cons_zero, List.set_cons_succ]
              refine AnyU.one 4 (by kernel_rfl) rfl (fun K hK => ?_)
              go_simp
              refine (hZ0 _).mono ?_; rintro e w52 ⟨Z2, z2, rfl, OZ2, BX⟩
              go_wp2_with fail
              have hnZ2g10 : ∀ b, Z2 = some ⟨b, 0, none⟩ → b ≠ g10 := fun b hb => by subst hb; have h1 := OZ2.lt.1; have h2 := X10.2; omega
              have hnZ2g11 : ∀ b, Z2 = some ⟨b, 0, none⟩ → b ≠ g11 := fun b hb => by subst hb; have h1 := OZ2.lt.1; have h2 := X11.2; omega
              have OZ2 := OZ2.base_le (BB51.size)
              skip
              have X10 := X10.nx BX
              have X11 := X11.nx BX
              have OZ1 := OZ1.below BX (Nat.le_refl _)
              have BB52 := bt BB51 BX
              clear BX
              refine hK.out _ _ (.inr ⟨(s8.nx BB52).cell 0, (s8.nx BB52).cell 1, (s8.nx BB52).cell 2, (s9.nx BB52).cell 0, (s9.nx BB52).cell 1, (s9.nx BB52).cell 2⟩) (fun hHeld => ?_)
              have hHeld := hHeld.resolve_left (by decide)
              clear hK K
              try simp only [List.setIfInBounds_toArray, List.set_cons_zero, List.set_cons_succ]
              refine AnyU.next (i := 5) (v := ?_) hq' hns hHeld rfl rfl (by kernel_rfl) (Or.inl ⟨by rfl, ?_⟩) ?_
              rotate_left
              · intro w' hSw; (try dsimp only at hSw); go_simp <;> with_reducible rfl
              try simp only [List.setIfInBounds_toArray, List.set_cons_zero, List.set_cons_succ]
              have i0 := X10.cell 0
              have i1 := X10.cell 1
              have i2 := X10.cell 2
              have i3 := X10.cell 3
              have i4 := X10.cell 4
              have i5 := X10.cell 5
              have f0 := X10.frozen 0
              have f1 := X10.frozen 1
              have f2 := X10.frozen 2
              have f3 := X10.frozen 3
              have f4 := X10.frozen 4
              have f5 := X10.frozen 5
              refine AnyU.one 8 (by kernel_rfl) rfl (fun K hK => ?_)
              go_simp
              have BBa := wr6_below (b := g10) BB52 hwg10 (.bool (qn q)) (.slice A8' (digs (qt q)).length c8') (.slice M8' (digs (qd q)).length m8') (.bool false) (.slice none 0 0) (.slice Z1 1 z1)
              refine hK.out _ _ (.inr ⟨(s8.nx BBa).cell 0, (s8.nx BBa).cell 1, (s8.nx BBa).cell 2, (s9.nx BBa).cell 0, (s9.nx BBa).cell 1, (s9.nx BBa).cell 2⟩) (fun hHeld => ?_)
              have hHeld := hHeld.resolve_left (by decide)
              clear hK K hHeld
              try simp only [List.setIfInBounds_toArray, List.set_cons_zero, List.set_cons_succ]
              clear i0 i1 i2 i3 i4 i5 f0 f1 f2 f3 f4 f5
              have hne : g11 ≠ g10 := by omega
              have X11 := X11.wr6 (r := g10) hne (.bool (qn q)) (.slice A8' (digs (qt q)).length c8') (.slice M8' (digs (qd q)).length m8') (.bool false) (.slice none 0 0) (.slice Z1 1 z1)
              have X10 := X10.put6 (.bool (qn q)) (.slice A8' (digs (qt q)).length c8') (.slice M8' (digs (qd q)).length m8') (.bool false) (.slice none 0 0) (.slice Z1 1 z1)
              have OZ1 := OZ1.far6 hnZ1g10 (.bool (qn q)) (.slice A8' (digs (qt q)).length c8') (.slice M8' (digs (qd q)).length m8') (.bool false) (.slice none 0 0) (.slice Z1 1 z1)
              have OZ2 := OZ2.far6 hnZ2g10 (.bool (qn q)) (.slice A8' (digs (qt q)).length c8') (.slice M8' (digs (qd q)).length m8') (.bool false) (.slice none 0 0) (.slice Z1 1 z1)
              obtain ⟨Wa, hWa⟩ : ∃ Wa, ((((((w52.setCell ⟨g10, 0, none⟩ (.bool (qn q))).setCell ⟨g10, 1, none⟩ (.slice A8' (digs (qt q)).length c8')).setCell ⟨g10, 2, none⟩ (.slice M8' (digs (qd q)).length m8')).setCell ⟨g10, 3, none⟩ (.bool false)).setCell ⟨g10, 4, none⟩ (.slice none 0 0)).setCell ⟨g10, 5, none⟩ (.slice Z1 1 z1)) = Wa := ⟨_, rfl⟩
              rw [hWa]
              unfold wr6 wr3 at X10 X11 OZ1 OZ2 BBa
              rw [hWa] at X10 X11 OZ1 OZ2 BBa
              clear hWa
              have i0 := X11.cell 0
              have i1 := X11.cell 1
              have i2 := X11.cell 2
              have i3 := X11.cell 3
              have i4 := X11.cell 4
              have i5 := X11.cell 5
              have f0 := X11.frozen 0
              have f1 := X11.frozen 1
              have f2 := X11.frozen 2
              have f3 := X11.frozen 3
              have f4 := X11.frozen 4
              have f5 := X11.frozen 5
              refine AnyU.one 9 (by kernel_rfl) rfl (fun K hK => ?_)
              go_simp
              refine hK.out _ _ (.inl rfl) (fun _ => ?_)
              clear hK K
              try simp only [List.setIfInBounds_toArray, List.set_cons_zero, List.set_cons_succ]
              clear i0 i1 i2 i3 i4 i5 f0 f1 f2 f3 f4 f5
              refine AnyU.done (by kernel_rfl) (hQK.out _ _ ?_)
              go_wp2_with fail
              go_meet
              have BBb := wr6_below (b := g11) BBa hwg11 (.bool (qn s)) (.slice A9 (digs (qt s)).length c9) (.slice M9 (digs (qd s)).length m9) (.bool false) (.slice none 0 0) (.slice Z2 1 z2)
              have X10 := X10.wr6 (r := g11) (Ne.symm hne) (.bool (qn s)) (.slice A9 (digs (qt s)).length c9) (.slice M9 (digs (qd s)).length m9) (.bool false) (.slice none 0 0) (.slice Z2 1 z2)
              have X11 := X11.put6 (.bool (qn s)) (.slice A9 (digs (qt s)).length c9) (.slice M9 (digs (qd s)).length m9) (.bool false) (.slice none 0 0) (.slice Z2 1 z2)
              have OZ1 := OZ1.far6 hnZ1g11 (.bool (qn s)) (.slice A9 (digs (qt s)).length c9) (.slice M9 (digs (qd s)).length m9) (.bool false) (.slice none 0 0) (.slice Z2 1 z2)
              have OZ2 := OZ2.far6 hnZ2g11 (.bool (qn s)) (.slice A9 (digs (qt s)).length c9) (.slice M9 (digs (qd s)).length m9) (.bool false) (.slice none 0 0) (.slice Z2 1 z2)
              exact ⟨g10, g11, Z1, z1, Z2, z2, rfl, rfl, k13.nx BBb, X10, X11, O8.below BBb (Nat.le_refl _), P8.below BBb (Nat.le_refl _), OZ1.base_le hwc, O9.below BBb (Nat.le_refl _), P9.below BBb (Nat.le_refl _), OZ2.base_le hwc, by omega, by omega⟩
          · go_simp
            have X11 := SB.new w47 [.bool false, .slice none 0 0, .slice none 0 0, .bool false, .slice none 0 0, .slice none 0 0] 26
            have BX := bal w47 (.cells #[.bool false, .slice none 0 0, .slice none 0 0, .bool false, .slice none 0 0, .slice none 0 0] 26)
            have BB53 := bt BB47 BX
            have hwg11 : wc.heap.size ≤ w47.heap.size := BB47.size
            have hltg11 := X10.2
            have X10 := X10.nx BX
            obtain ⟨w53, hw53⟩ : ∃ w53, w53 = w47.alloc (.cells #[.bool false, .slice none 0 0, .slice none 0 0, .bool false, .slice none 0 0, .slice none 0 0] 26) := ⟨_, rfl⟩
            rw [← hw53] at X11 BB53 X10 ⊢
            clear hw53 BX
            generalize w47.heap.size = g11 at *
            refine hK.out _ _ (.inr ⟨(s8.nx BB53).cell 0, (s8.nx BB53).cell 1, (s8.nx BB53).cell 2, (s9.nx BB53).cell 0, (s9.nx BB53).cell 1, (s9.nx BB53).cell 2⟩) (fun hHeld => ?_)
            have hHeld := hHeld.resolve_left (by decide)
            clear hK K
            try simp only [List.setIfInBounds_toArray, List.set_cons_zero, List.set_cons_succ]
            refine AnyU.one 1 (by kernel_rfl) rfl (fun K hK => ?_)
            go_simp
            refine (hZ0 _).mono ?_; rintro e w54 ⟨Z1, z1, rfl, OZ1, BX⟩
            go_wp2_with fail
            have hnZ1g10 : ∀ b, Z1 = some ⟨b, 0, none⟩ → b ≠ g10 := fun b hb => by subst hb; have h1 := OZ1.lt.1; have h2 := X10.2; omega
            have hnZ1g11 : ∀ b, Z1 = some ⟨b, 0, none⟩ → b ≠ g11 := fun b hb => by subst hb; have h1 := OZ1.lt.1; have h2 := X11.2; omega
            have OZ1 := OZ1.base_le (BB53.size)
            skip
            have X10 := X10.nx BX
            have X11 := X11.nx BX
            have BB54 := bt BB53 BX
            clear BX
            refine hK.out _ _ (.inr ⟨(s8.nx BB54).cell 0, (s8.nx BB54).cell 1, (s8.nx BB54).cell 2, (s9.nx BB54).cell 0, (s9.nx BB54).cell 1, (s9.nx BB54).cell 2⟩) (fun hHeld => ?_)
            have hHeld := hHeld.resolve_left (by decide)
            clear hK K
            try simp only [List.setIfInBounds_toArray, List.set_cons_zero, List.set_cons_succ]
            refine AnyU.next (i := 2) (v := ?_) hq' hns hHeld rfl rfl (by kernel_rfl) (Or.inl ⟨by rfl, ?_⟩) ?_
            rotate_left
            · intro w' hSw; (try dsimp only at hSw); go_simp <;> with_reducible rfl
            try simp only [List.setIfInBounds_toArray, List.set_cons_zero, List.set_cons_succ]
            refine AnyU.one 4 (by kernel_rfl) rfl (fun K hK => ?_)
            go_simp
            refine (hZ0 _).mono ?_; rintro e w55 ⟨Z2, z2, rfl, OZ2, BX⟩
            go_wp2_with fail
            have hnZ2g10 : ∀ b, Z2 = some ⟨b, 0, none⟩ → b ≠ g10 := fun b hb => by subst hb; have h1 := OZ2.lt.1; have h2 := X10.2; omega
            have hnZ2g11 : ∀ b, Z2 = some ⟨b, 0, none⟩ → b ≠ g11 := fun b hb => by subst hb; have h1 := OZ2.lt.1; have h2 := X11.2; omega
            have OZ2 := OZ2.base_le (BB54.size)
            skip
            have X10 := X10.nx BX
            have X11 := X11.nx BX
            have OZ1 := OZ1.below BX (Nat.le_refl _)
            have BB55 := bt BB54 BX
            clear BX
            refine hK.out _ _ (.inr ⟨(s8.nx BB55).cell 0, (s8.nx BB55).cell 1, (s8.nx BB55).cell 2, (s9.nx BB55).cell 0, (s9.nx BB55).cell 1, (s9.nx BB55).cell 2⟩) (fun hHeld => ?_)
            have hHeld := hHeld.resolve_left (by decide)
            clear hK K
            try simp only [List.setIfInBounds_toArray, List.set_cons_zero, List.set_cons_succ]
            refine AnyU.next (i := 5) (v := ?_) hq' hns hHeld rfl rfl (by kernel_rfl) (Or.inl ⟨by rfl, ?_⟩) ?_
            rotate_left
            · intro w' hSw; (try dsimp only at hSw); go_simp <;> with_reducible rfl
            try simp only [List.setIfInBounds_toArray, List.set_cons_zero, List.set_cons_succ]
            have i0 := X10.cell 0
            have i1 := X10.cell 1
            have i2 := X10.cell 2
            have i3 := X10.cell 3
            have i4 := X10.cell 4
            have i5 := X10.cell 5
            have f0 := X10.frozen 0
            have f1 := X10.frozen 1
            have f2 := X10.frozen 2
            have f3 := X10.frozen 3
            have f4 := X10.frozen 4
            have f5 := X10.frozen 5
            refine AnyU.one 8 (by kernel_rfl) rfl (fun K hK => ?_)
            go_simp
            have BBa := wr6_below (b := g10) BB55 hwg10 (.bool (qn q)) (.slice A8' (digs (qt q)).length c8') (.slice M8' (digs (qd q)).length m8') (.bool false) (.slice none 0 0) (.slice Z1 1 z1)
            refine hK.out _ _ (.inr ⟨(s8.nx BBa).cell 0, (s8.nx BBa).cell 1, (s8.nx BBa).cell 2, (s9.nx BBa).cell 0, (s9.nx BBa).cell 1, (s9.nx BBa).cell 2⟩) (fun hHeld => ?_)
            have hHeld := hHeld.resolve_left (by decide)
            clear hK K hHeld
            try simp only [List.setIfInBounds_toArray, List.set_cons_zero, List.set_cons_succ]
            clear i0 i1 i2 i3 i4 i5 f0 f1 f2 f3 f4 f5
            have hne : g11 ≠ g10 := by omega
            have X11 := X11.wr6 (r := g10) hne (.bool (qn q)) (.slice A8' (digs (qt q)).length c8') (.slice M8' (digs (qd q)).length m8') (.bool false) (.slice none 0 0) (.slice Z1 1 z1)
            have X10 := X10.put6 (.bool (qn q)) (.slice A8' (digs (qt q)).length c8') (.slice M8' (digs (qd q)).length m8') (.bool false) (.slice none 0 0) (.slice Z1 1 z1)
            have OZ1 := OZ1.far6 hnZ1g10 (.bool (qn q)) (.slice A8' (digs (qt q)).length c8') (.slice M8' (digs (qd q)).length m8') (.bool false) (.slice none 0 0) (.slice Z1 1 z1)
            have OZ2 := OZ2.far6 hnZ2g10 (.bool (qn q)) (.slice A8' (digs (qt q)).length c8') (.slice M8' (digs (qd q)).length m8') (.bool false) (.slice none 0 0) (.slice Z1 1 z1)
            obtain ⟨Wa, hWa⟩ : ∃ Wa, ((((((w55.setCell ⟨g10, 0, none⟩ (.bool (qn q))).setCell ⟨g10, 1, none⟩ (.slice A8' (digs (qt q)).length c8')).setCell ⟨g10, 2, none⟩ (.slice M8' (digs (qd q)).length m8')).setCell ⟨g10, 3, none⟩ (.bool false)).setCell ⟨g10, 4, none⟩ (.slice none 0 0)).setCell ⟨g10, 5, none⟩ (.slice Z1 1 z1)) = Wa := ⟨_, rfl⟩
            rw [hWa]
            unfold wr6 wr3 at X10 X11 OZ1 OZ2 BBa
            rw [hWa] at X10 X11 OZ1 OZ2 BBa
            clear hWa
            have i0 := X11.cell 0
            have i1 := X11.cell 1
            have i2 := X11.cell 2
            have i3 := X11.cell 3
            have i4 := X11.cell 4
            have i5 := X11.cell 5
            have f0 := X11.frozen 0
            have f1 := X11.frozen 1
            have f2 := X11.frozen 2
            have f3 := X11.frozen 3
            have f4 := X11.frozen 4
            have f5 := X11.frozen 5
            refine AnyU.one 9 (by kernel_rfl) rfl (fun K hK => ?_)
            go_simp
            refine hK.out _ _ (.inl rfl) (fun _ => ?_)
            clear hK K
            try simp only [List.setIfInBounds_toArray, List.set_cons_zero, List.set_cons_succ]
            clear i0 i1 i2 i3 i4 i5 f0 f1 f2 f3 f4 f5
            refine AnyU.done (by kernel_rfl) (hQK.out _ _ ?_)
            go_wp2_with fail
            go_meet
            have BBb := wr6_below (b := g11) BBa hwg11 (.bool (qn s)) (.slice A9 (digs (qt s)).length c9) (.slice M9 (digs (qd s)).length m9) (.bool false) (.slice none 0 0) (.slice Z2 1 z2)
            have X10 := X10.wr6 (r := g11) (Ne.symm hne) (.bool (qn s)) (.slice A9 (digs (qt s)).length c9) (.slice M9 (digs (qd s)).length m9) (.bool false) (.slice none 0 0) (.slice Z2 1 z2)
            have X11 := X11.put6 (.bool (qn s)) (.slice A9 (digs (qt s)).length c9) (.slice M9 (digs (qd s)).length m9) (.bool false) (.slice none 0 0) (.slice Z2 1 z2)
            have OZ1 := OZ1.far6 hnZ1g11 (.bool (qn s)) (.slice A9 (digs (qt s)).length c9) (.slice M9 (digs (qd s)).length m9) (.bool false) (.slice none 0 0) (.slice Z2 1 z2)
            have OZ2 := OZ2.far6 hnZ2g11 (.bool (qn s)) (.slice A9 (digs (qt s)).length c9) (.slice M9 (digs (qd s)).length m9) (.bool false) (.slice none 0 0) (.slice Z2 1 z2)
            exact ⟨g10, g11, Z1, z1, Z2, z2, rfl, rfl, k13.nx BBb, X10, X11, O8.below BBb (Nat.le_refl _), P8.below BBb (Nat.le_refl _), OZ1.base_le hwc, O9.below BBb (Nat.le_refl _), P9.below BBb (Nat.le_refl _), OZ2.base_le hwc, by omega, by omega⟩
        · go_simp
          have X11 := SB.new w30 [.bool false, .slice none 0 0, .slice none 0 0, .bool false, .slice none 0 0, .slice none 0 0] 26
          have BX := bal w30 (.cells #[.bool false, .slice none 0 0, .slice none 0 0, .bool false, .slice none 0 0, .slice none 0 0] 26)
          have BB56 := bt BB0 BX
          have hwg11 : wc.heap.size ≤ w30.heap.size := BB0.size
          obtain ⟨w56, hw56⟩ : ∃ w56, w56 = w30.alloc (.cells #[.bool false, .slice none 0 0, .slice none 0 0, .bool false, .slice none 0 0, .slice none 0 0] 26) := ⟨_, rfl⟩
          rw [← hw56] at X11 BB56 ⊢
          clear hw56 BX
          generalize w30.heap.size = g11 at *
          refine hK.out _ _ (.inr ⟨(s8.nx BB56).cell 0, (s8.nx BB56).cell 1, (s8.nx BB56).cell 2, (s9.nx BB56).cell 0, (s9.nx BB56).cell 1, (s9.nx BB56).cell 2⟩) (fun hHeld => ?_)
          have hHeld := hHeld.resolve_left (by decide)
          clear hK K
          try simp only [List.setIfInBounds_toArray, List.set_cons_zero, List.set_cons_succ]
          refine AnyU.two (i := 1) (j := 6) (by kernel_rfl) (USome.mk rfl (fun K hK => ?_)) (USome.mk rfl (fun K hK => ?_))
          · go_simp
            refine (hZ0 _).mono ?_; rintro e w57 ⟨Z1, z1, rfl, OZ1, BX⟩
            go_wp2_with fail
            have hnZ1g11 : ∀ b, Z1 = some ⟨b, 0, none⟩ → b ≠ g11 := fun b hb => by subst hb; have h1 := OZ1.lt.1; have h2 := X11.2; omega
            have OZ1 := OZ1.base_le (BB56.size)
            skip
            have X11 := X11.nx BX
            have BB57 := bt BB56 BX
            clear BX
            refine hK.out _ _ (.inr ⟨(s8.nx BB57).cell 0, (s8.nx BB57).cell 1, (s8.nx BB57).cell 2, (s9.nx BB57).cell 0, (s9.nx BB57).cell 1, (s9.nx BB57).cell 2⟩) (fun hHeld => ?_)
            have hHeld := hHeld.resolve_left (by decide)
            clear hK K
            try simp only [List.setIfInBounds_toArray, List.set_cons_zero, List.set_cons_succ]
            refine AnyU.next (i := 2) (v := ?_) hq' hns hHeld rfl rfl (by kernel_rfl) (Or.inl ⟨by rfl, ?_⟩) ?_
            rotate_left
            · intro w' hSw; (try dsimp only at hSw); go_simp <;> with_reducible rfl
            try simp only [List.setIfInBounds_toArray, List.set_cons_zero, List.set_cons_succ]
            refine AnyU.two (i := 4) (j := 6) (by kernel_rfl) (USome.mk rfl (fun K hK => ?_)) (USome.mk rfl (fun K hK => ?_))
            · go_simp
              refine (hZ0 _).mono ?_; rintro e w58 ⟨Z2, z2, rfl, OZ2, BX⟩
              go_wp2_with fail
              have hnZ2g11 : ∀ b, Z2 = some ⟨b, 0, none⟩ → b ≠ g11 := fun b hb => by subst hb; have h1 := OZ2.lt.1; have h2 := X11.2; omega
              have OZ2 := OZ2.base_le (BB57.size)
              skip
              have X11 := X11.nx BX
              have OZ1 := OZ1.below BX (Nat.le_refl _)
              have BB58 := bt BB57 BX
              clear BX
              refine hK.out _ _ (.inr ⟨(s8.nx BB58).cell 0, (s8.nx BB58).cell 1, (s8.nx BB58).cell 2, (s9.nx BB58).cell 0, (s9.nx BB58).cell 1, (s9.nx BB58).cell 2⟩) (fun hHeld => ?_)
              have hHeld := hHeld.resolve_left (by decide)
              clear hK K
              try simp only [List.setIfInBounds_toArray, List.set_cons_zero, List.set_cons_succ]
              refine AnyU.next (i := 5) (v := ?_) hq' hns hHeld rfl rfl (by kernel_rfl) (Or.inl ⟨by rfl, ?_⟩) ?_
              rotate_left
              · intro w' hSw; (try dsimp only at hSw); go_simp <;> with_reducible rfl
              try simp only [List.setIfInBounds_toArray, List.set_cons_zero, List.set_cons_succ]
              refine AnyU.one 6 (by kernel_rfl) rfl (fun K hK => ?_)
              go_simp
              have X10 := SB.new w58 [.bool false, .slice none 0 0, .slice none 0 0, .bool false, .slice none 0 0, .slice none 0 0] 26
              have BX := bal w58 (.cells #[.bool false, .slice none 0 0, .slice none 0 0, .bool false, .slice none 0 0, .slice none 0 0] 26)
              have BB59 := bt BB58 BX
              have hwg10 : wc.heap.size ≤ w58.heap.size := BB58.size
              have hnZ1g10 : ∀ b, Z1 = some ⟨b, 0, none⟩ → b ≠ w58.heap.size := fun b hb => by subst hb; exact Nat.ne_of_lt OZ1.lt.2
              have hnZ2g10 : ∀ b, Z2 = some ⟨b, 0, none⟩ → b ≠ w58.heap.size := fun b hb => by subst hb; exact Nat.ne_of_lt OZ2.lt.2
              have hltg10 := X11.2
              have X11 := X11.nx BX
              have OZ1 := OZ1.below BX (Nat.le_refl _)
              have OZ2 := OZ2.below BX (Nat.le_refl _)
              obtain ⟨w59, hw59⟩ : ∃ w59, w59 = w58.alloc (.cells #[.bool false, .slice none 0 0, .slice none 0 0, .bool false, .slice none 0 0, .slice none 0 0] 26) := ⟨_, rfl⟩
              rw [← hw59] at X10 BB59 X11 OZ1 OZ2 ⊢
              clear hw59 BX
              generalize w58.heap.size = g10 at *
              refine hK.out _ _ (.inr ⟨(s8.nx BB59).cell 0, (s8.nx BB59).cell 1, (s8.nx BB59).cell 2, (s9.nx BB59).cell 0, (s9.nx BB59).cell 1, (s9.nx BB59).cell 2⟩) (fun hHeld => ?_)
              have hHeld := hHeld.resolve_left (by decide)
              clear hK K
              try simp only [List.setIfInBounds_toArray, List.set_cons_zero, List.set_cons_succ]
              have i0 := X10.cell 0
              have i1 := X10.cell 1
              have i2 := X10.cell 2
              have i3 := X10.cell 3
              have i4 := X10.cell 4
              have i5 := X10.cell 5
              have f0 := X10.frozen 0
              have f1 := X10.frozen 1
              have f2 := X10.frozen 2
              have f3 := X10.frozen 3
              have f4 := X10.frozen 4
              have f5 := X10.frozen 5
              refine AnyU.one 8 (by kernel_rfl) rfl (fun K hK => ?_)
              go_simp
              have BBa := wr6_below (b := g10) BB59 hwg10 (.bool (qn q)) (.slice A8' (digs (qt q)).length c8') (.slice M8' (digs (qd q)).length m8') (.bool false) (.slice none 0 0) (.slice Z1 1 z1)
              refine hK.out _ _ (.inr ⟨(s8.nx BBa).cell 0, (s8.nx BBa).cell 1, (s8.nx BBa).cell 2, (s9.nx BBa).cell 0, (s9.nx BBa).cell 1, (s9.nx BBa).cell 2⟩) (fun hHeld => ?_)
              have hHeld := hHeld.resolve_left (by decide)
              clear hK K hHeld
              try simp only [List.setIfInBounds_toArray, List.set_cons_zero, List.set_cons_succ]
              clear i0 i1 i2 i3 i4 i5 f0 f1 f2 f3 f4 f5
              have hne : g11 ≠ g10 := by omega
              have X11 := X11.wr6 (r := g10) hne (.bool (qn q)) (.slice A8' (digs (qt q)).length c8') (.slice M8' (digs (qd q)).length m8') (.bool false) (.slice none 0 0) (.slice Z1 1 z1)
              have X10 := X10.put6 (.bool (qn q)) (.slice A8' (digs (qt q)).length c8') (.slice M8' (digs (qd q)).length m8') (.bool false) (.slice none 0 0) (.slice Z1 1 z1)
              have OZ1 := OZ1.far6 hnZ1g10 (.bool (qn q)) (.slice A8' (digs (qt q)).length c8') (.slice M8' (digs (qd q)).length m8') (.bool false) (.slice none 0 0) (.slice Z1 1 z1)
              have OZ2 := OZ2.far6 hnZ2g10 (.bool (qn q)) (.slice A8' (digs (qt q)).length c8') (.slice M8' (digs (qd q)).length m8') (.bool false) (.slice none 0 0) (.slice Z1 1 z1)
              obtain ⟨Wa, hWa⟩ : ∃ Wa, ((((((w59.setCell ⟨g10, 0, none⟩ (.bool (qn q))).setCell ⟨g10, 1, none⟩ (.slice A8' (digs (qt q)).length c8')).setCell ⟨g10, 2, none⟩ (.slice M8' (digs (qd q)).length m8')).setCell ⟨g10, 3, none⟩ (.bool false)).setCell ⟨g10, 4, none⟩ (.slice none 0 0)).setCell ⟨g10, 5, none⟩ (.slice Z1 1 z1)) = Wa := ⟨_, rfl⟩
              rw [hWa]
              unfold wr6 wr3 at X10 X11 OZ1 OZ2 BBa
              rw [hWa] at X10 X11 OZ1 OZ2 BBa
              clear hWa
              have i0 := X11.cell 0
              have i1 := X11.cell 1
              have i2 := X11.cell 2
              have i3 := X11.cell 3
              have i4 := X11.cell 4
              have i5 := X11.cell 5
              have f0 := X11.frozen 0
              have f1 := X11.frozen 1
              have f2 := X11.frozen 2
              have f3 := X11.frozen 3
              have f4 := X11.frozen 4
              have f5 := X11.frozen 5
              refine AnyU.one 9 (by kernel_rfl) rfl (fun K hK => ?_)
              go_simp
              refine hK.out _ _ (.inl rfl) (fun _ => ?_)
              clear hK K
              try simp only [List.setIfInBounds_toArray, List.set_cons_zero, List.set_cons_succ]
              clear i0 i1 i2 i3 i4 i5 f0 f1 f2 f3 f4 f5
              refine AnyU.done (by kernel_rfl) (hQK.out _ _ ?_)
              go_wp2_with fail
              go_meet
              have BBb := wr6_below (b := g11) BBa hwg11 (.bool (qn s)) (.slice A9 (digs (qt s)).length c9) (.slice M9 (digs (qd s)).length m9) (.bool false) (.slice none 0 0) (.slice Z2 1 z2)
              have X10 := X10.wr6 (r := g11) (Ne.symm hne) (.bool (qn s)) (.slice A9 (digs (qt s)).length c9) (.slice M9 (digs (qd s)).length m9) (.bool false) (.slice none 0 0) (.slice Z2 1 z2)
              have X11 := X11.put6 (.bool (qn s)) (.slice A9 (digs (qt s)).length c9) (.slice M9 (digs (qd s)).length m9) (.bool false) (.slice none 0 0) (.slice Z2 1 z2)
              have OZ1 := OZ1.far6 hnZ1g11 (.bool (qn s)) (.slice A9 (digs (qt s)).length c9) (.slice M9 (digs (qd s)).length m9) (.bool false) (.slice none 0 0) (.slice Z2 1 z2)
              have OZ2 := OZ2.far6 hnZ2g11 (.bool (qn s)) (.slice A9 (digs (qt s)).length c9) (.slice M9 (digs (qd s)).length m9) (.bool false) (.slice none 0 0) (.slice Z2 1 z2)
              exact ⟨g10, g11, Z1, z1, Z2, z2, rfl, rfl, k13.nx BBb, X10, X11, O8.below BBb (Nat.le_refl _), P8.below BBb (Nat.le_refl _), OZ1.base_le hwc, O9.below BBb (Nat.le_refl _), P9.below BBb (Nat.le_refl _), OZ2.base_le hwc, by omega, by omega⟩
            · go_simp
              have X10 := SB.new w57 [.bool false, .slice none 0 0, .slice none 0 0, .bool false, .slice none 0 0, .slice none 0 0] 26
              have BX := bal w57 (.cells #[.bool false, .slice none 0 0, .slice none 0 0, .bool false, .slice none 0 0, .slice none 0 0] 26)
              have BB60 := bt BB57 BX
              have hwg10 : wc.heap.size ≤ w57.heap.size := BB57.size
              have hnZ1g10 : ∀ b, Z1 = some ⟨b, 0, none⟩ → b ≠ w57.heap.size := fun b hb => by subst hb; exact Nat.ne_of_lt OZ1.lt.2
              have hltg10 := X11.2
              have X11 := X11.nx BX
              have OZ1 := OZ1.below BX (Nat.le_refl _)
              obtain ⟨w60, hw60⟩ : ∃ w60, w60 = w57.alloc (.cells #[.bool false, .slice none 0 0, .slice none 0 0, .bool false, .slice none 0 0, .slice none 0 0] 26) := ⟨_, rfl⟩
              rw [← hw60] at X10 BB60 X11 OZ1 ⊢
              clear hw60 BX
              generalize w57.heap.size = g10 at *
              refine hK.out _ _ (.inr ⟨(s8.nx BB60).cell 0, (s8.nx BB60).cell 1, (s8.nx BB60).cell 2, (s9.nx BB60).cell 0, (s9.nx BB60).cell 1, (s9.nx BB60).cell 2⟩) (fun hHeld => ?_)
              have hHeld := hHeld.resolve_left (by decide)
              clear hK K
              try simp only [List.setIfInBounds_toArray, List.set_cons_zero, List.set_cons_succ]
              refine AnyU.one 4 (by kernel_rfl) rfl (fun K hK => ?_)
              go_simp
              refine (hZ0 _).mono ?_; rintro e w61 ⟨Z2, z2, rfl, OZ2, BX⟩
              go_wp2_with fail
              have hnZ2g11 : ∀ b, Z2 = some ⟨b, 0, none⟩ → b ≠ g11 := fun b hb => by subst hb; have h1 := OZ2.lt.1; have h2 := X11.2; omega
              have hnZ2g10 : ∀ b, Z2 = some ⟨b, 0, none⟩ → b ≠ g10 := fun b hb => by subst hb; have h1 := OZ2.lt.1; have h2 := X10.2; omega
              have OZ2 := OZ2.base_le (BB60.size)
              skip
              have X11 := X11.nx BX
              have X10 := X10.nx BX
              have OZ1 := OZ1.below BX (Nat.le_refl _)
              have BB61 := bt BB60 BX
              clear BX
              refine hK.out _ _ (.inr ⟨(s8.nx BB61).cell 0, (s8.nx BB61).cell 1, (s8.nx BB61).cell 2, (s9.nx BB61).cell 0, (s9.nx BB61).cell 1, (s9.nx BB61).cell 2⟩) (fun hHeld => ?_)
              have hHeld := hHeld.resolve_left (by decide)
              clear hK K
              try simp only [List.setIfInBounds_toArray, List.set_cons_zero, List.set_cons_succ]
              refine AnyU.next (i := 5) (v := ?_) hq' hns hHeld rfl rfl (by kernel_rfl) (Or.inl ⟨by rfl, ?_⟩) ?_
              rotate_left
              · intro w' hSw; (try dsimp only at hSw); go_simp <;> with_reducible rfl
              try simp only [List.setIfInBounds_toArray, List.set_cons_zero, List.set_cons_succ]
              have i0 := X10.cell 0
              have i1 := X10.cell 1
              have i2 := X10.cell 2
              have i3 := X10.cell 3
              have i4 := X10.cell 4
              have i5 := X10.cell 5
              have f0 := X10.frozen 0
              have f1 := X10.frozen 1
              have f2 := X10.frozen 2
              have f3 := X10.frozen 3
              have f4 := X10.frozen 4
              have f5 := X10.frozen 5
              refine AnyU.one 8 (by kernel_rfl) rfl (fun K hK => ?_)
              go_simp
              have BBa := wr6_below (b := g10) BB61 hwg10 (.bool (qn q)) (.slice A8' (digs (qt q)).length c8') (.slice M8' (digs (qd q)).length m8') (.bool false) (.slice none 0 0) (.slice Z1 1 z1)
              refine hK.out _ _ (.inr ⟨(s8.nx BBa).cell 0, (s8.nx BBa).cell 1, (s8.nx BBa).cell 2, (s9.nx BBa).cell 0, (s9.nx BBa).cell 1, (s9.nx BBa).cell 2⟩) (fun hHeld => ?_)
              have hHeld := hHeld.resolve_left (by decide)
              clear hK K hHeld
              try simp only [List.setIfInBounds_toArray, List.set_cons_zero, List.set_cons_succ]
              clear i0 i1 i2 i3 i4 i5 f0 f1 f2 f3 f4 f5
              have hne : g11 ≠ g10 := by omega
              have X11 := X11.wr6 (r := g10) hne (.bool (qn q)) (.slice A8' (digs (qt q)).length c8') (.slice M8' (digs (qd q)).length m8') (.bool false) (.slice none 0 0) (.slice Z1 1 z1)
              have X10 := X10.put6 (.bool (qn q)) (.slice A8' (digs (qt q)).length c8') (.slice M8' (digs (qd q)).length m8') (.bool false) (.slice none 0 0) (.slice Z1 1 z1)
              have OZ1 := OZ1.far6 hnZ1g10 (.bool (qn q)) (.slice A8' (digs (qt q)).length c8') (.slice M8' (digs (qd q)).length m8') (.bool false) (.slice none 0 0) (.slice Z1 1 z1)
              have OZ2 := OZ2.far6 hnZ2g10 (.bool (qn q)) (.slice A8' (digs (qt q)).length c8') (.slice M8' (digs (qd q)).length m8') (.bool false) (.slice none 0 0) (.slice Z1 1 z1)
              obtain ⟨Wa, hWa⟩ : ∃ Wa, ((((((w61.setCell ⟨g10, 0, none⟩ (.bool (qn q))).setCell ⟨g10, 1, none⟩ (.slice A8' (digs (qt q)).length c8')).setCell ⟨g10, 2, none⟩ (.slice M8' (digs (qd q)).length m8')).setCell ⟨g10, 3, none⟩ (.bool false)).setCell ⟨g10, 4, none⟩ (.slice none 0 0)).setCell ⟨g10, 5, none⟩ (.slice Z1 1 z1)) = Wa := ⟨_, rfl⟩
              rw [hWa]
              unfold wr6 wr3 at X10 X11 OZ1 OZ2 BBa
              rw [hWa] at X10 X11 OZ1 OZ2 BBa
              clear hWa
              have i0 := X11.cell 0
              have i1 := X11.cell 1
              have i2 := X11.cell 2
              have i3 := X11.cell 3
              have i4 := X11.cell 4
              have i5 := X11.cell 5
              have f0 := X11.frozen 0
              have f1 := X11.frozen 1
              have f2 := X11.frozen 2
              have f3 := X11.frozen 3
              have f4 := X11.frozen 4
              have f5 := X11.frozen 5
              refine AnyU.one 9 (by kernel_rfl) rfl (fun K hK => ?_)
              go_simp
              refine hK.out _ _ (.inl rfl) (fun _ => ?_)
              clear hK K
              try simp only [List.setIfInBounds_toArray, List.set_cons_zero, List.set_cons_succ]
              clear i0 i1 i2 i3 i4 i5 f0 f1 f2 f3 f4 f5
              refine AnyU.done (by kernel_rfl) (hQK.out _ _ ?_)
              go_wp2_with fail
              go_meet
              have BBb := wr6_below (b := g11) BBa hwg11 (.bool (qn s)) (.slice A9 (digs (qt s)).length c9) (.slice M9 (digs (qd s)).length m9) (.bool false) (.slice none 0 0) (.slice Z2 1 z2)
              have X10 := X10.wr6 (r := g11) (Ne.symm hne) (.bool (qn s)) (.slice A9 (digs (qt s)).length c9) (.slice M9 (digs (qd s)).length m9) (.bool false) (.slice none 0 0) (.slice Z2 1 z2)
              have X11 := X11.put6 (.bool (qn s)) (.slice A9 (digs (qt s)).length c9) (.slice M9 (digs (qd s)).length m9) (.bool false) (.slice none 0 0) (.slice Z2 1 z2)
              have OZ1 := OZ1.far6 hnZ1g11 (.bool (qn s)) (.slice A9 (digs (qt s)).length c9) (.slice M9 (digs (qd s)).length m9) (.bool false) (.slice none 0 0) (.slice Z2 1 z2)
              have OZ2 := OZ2.far6 hnZ2g11 (.bool (qn s)) (.slice A9 (digs (qt s)).length c9) (.slice M9 (digs (qd s)).length m9) (.bool false) (.slice none 0 0) (.slice Z2 1 z2)
              exact ⟨g10, g11, Z1, z1, Z2, z2, rfl, rfl, k13.nx BBb, X10, X11, O8.below BBb (Nat.le_refl _), P8.below BBb (Nat.le_refl _), OZ1.base_le hwc, O9.below BBb (Nat.le_refl _), P9.below BBb (Nat.le_refl _), OZ2.base_le hwc, by omega, by omega⟩
          · go_simp
            have X10 := SB.new w56 [.bool false, .slice none 0 0, .slice none 0 0, .bool false, .slice none 0 0, .slice none 0 0] 26
            have BX := bal w56 (.cells #[.bool false, .slice none 0 0, .slice none 0 0, .bool false, .slice none 0 0, .slice none 0 0] 26)
            have BB62 := bt BB56 BX
            have hwg10 : wc.heap.size ≤ w56.heap.size := BB56.size
            have hltg10 := X11.2
            have X11 := X11.nx BX
            obtain ⟨w62, hw62⟩ : ∃ w62, w62 = w56.alloc (.cells #[.bool false, .slice none 0 0, .slice none 0 0, .bool false, .slice none 0 0, .slice none 0 0] 26) := ⟨_, rfl⟩
            rw [← hw62] at X10 BB62 X11 ⊢
            clear hw62 BX
            generalize w56.heap.size = g10 at *
            refine hK.out _ _ (.inr ⟨(s8.nx BB62).cell 0, (s8.nx BB62).cell 1, (s8.nx BB62).cell 2, (s9.nx BB62).cell 0, (s9.nx BB62).cell 1, (s9.nx BB62).cell 2⟩) (fun hHeld => ?_)
            have hHeld := hHeld.resolve_left (by decide)
            clear hK K
            try simp only [List.setIfInBounds_toArray, List.set_cons_zero, List.set_cons_succ]
            refine AnyU.one 1 (by kernel_rfl) rfl (fun K hK => ?_)
            go_simp
            refine (hZ0 _).mono ?_; rintro e w63 ⟨Z1, z1, rfl, OZ1, BX⟩
            go_wp2_with fail
            have hnZ1g11 : ∀ b, Z1 = some ⟨b, 0, none⟩ → b ≠ g11 := fun b hb => by subst hb; have h1 := OZ1.lt.1; have h2 := X11.2; omega
            have hnZ1g10 : ∀ b, Z1 = some ⟨b, 0, none⟩ → b ≠ g10 := fun b hb => by subst hb; have h1 := OZ1.lt.1; have h2 := X10.2; omega
            have OZ1 := OZ1.base_le (BB62.size)
            skip
            have X11 := X11.nx BX
            have X10 := X10.nx BX
            have BB63 := bt BB62 BX
            clear BX
            refine hK.out _ _ (.inr ⟨(s8.nx BB63).cell 0, (s8.nx BB63).cell 1, (s8.nx BB63).cell 2, (s9.nx BB63).cell 0, (s9.nx BB63).cell 1, (s9.nx BB63).cell 2⟩) (fun hHeld => ?_)
            have hHeld := hHeld.resolve_left (by decide)
            clear hK K
            try simp only [List.setIfInBounds_toArray, List.set_cons_zero, List.set_cons_succ]
            refine AnyU.next (i := 2) (v := ?_) hq' hns hHeld rfl rfl (by kernel_rfl) (Or.inl ⟨by rfl, ?_⟩) ?_
            rotate_left
            · intro w' hSw; (try dsimp only at hSw); go_simp <;> with_reducible rfl
            try simp only [List.setIfInBounds_toArray, List.set_cons_zero, List.set_cons_succ]
            refine AnyU.one 4 (by kernel_rfl) rfl (fun K hK => ?_)
            go_simp
            refine (hZ0 _).mono ?_; rintro e w64 ⟨Z2, z2, rfl, OZ2, BX⟩
            go_wp2_with fail
            have hnZ2g11 : ∀ b, Z2 = some ⟨b, 0, none⟩ → b ≠ g11 := fun b hb => by subst hb; have h1 := OZ2.lt.1; have h2 := X11.2; omega
            have hnZ2g10 : ∀ b, Z2 = some ⟨b, 0, none⟩ → b ≠ g10 := fun b hb => by subst hb; have h1 := OZ2.lt.1; have h2 := X10.2; omega
            have OZ2 := OZ2.base_le (BB63.size)
            skip
            have X11 := X11.nx BX
            have X10 := X10.nx BX
            have OZ1 := OZ1.below BX (Nat.le_refl _)
            have BB64 := bt BB63 BX
            clear BX
            refine hK.out _ _ (.inr ⟨(s8.nx BB64).cell 0, (s8.nx BB64).cell 1, (s8.nx BB64).cell 2, (s9.nx BB64).cell 0, (s9.nx BB64).cell 1, (s9.nx BB64).cell 2⟩) (fun hHeld => ?_)
            have hHeld := hHeld.resolve_left (by decide)
            clear hK K
            try simp only [List.setIfInBounds_toArray, List.set_cons_zero, List.set_cons_succ]
            refine AnyU.next (i := 5) (v := ?_) hq' hns hHeld rfl rfl (by kernel_rfl) (Or.inl ⟨by rfl, ?_⟩) ?_
            rotate_left
            · intro w' hSw; (try dsimp only at hSw); go_simp <;> with_reducible rfl
            try simp only [List.setIfInBounds_toArray, List.set_cons_zero, List.set_cons_succ]
            have i0 := X10.cell 0
            have i1 := X10.cell 1
            have i2 := X10.cell 2
            have i3 := X10.cell 3
            have i4 := X10.cell 4
            have i5 := X10.cell 5
            have f0 := X10.frozen 0
            have f1 := X10.frozen 1
            have f2 := X10.frozen 2
            have f3 := X10.frozen 3
            have f4 := X10.frozen 4
            have f5 := X10.frozen 5
            refine AnyU.one 8 (by kernel_rfl) rfl (fun K hK => ?_)
            go_simp
            have BBa := wr6_below (b := g10) BB64 hwg10 (.bool (qn q)) (.slice A8' (digs (qt q)).length c8') (.slice M8' (digs (qd q)).length m8') (.bool false) (.slice none 0 0) (.slice Z1 1 z1)
            refine hK.out _ _ (.inr ⟨(s8.nx BBa).cell 0, (s8.nx BBa).cell 1, (s8.nx BBa).cell 2, (s9.nx BBa).cell 0, (s9.nx BBa).cell 1, (s9.nx BBa).cell 2⟩) (fun hHeld => ?_)
            have hHeld := hHeld.resolve_left (by decide)
            clear hK K hHeld
            try simp only [List.setIfInBounds_toArray, List.set_cons_zero, List.set_cons_succ]
            clear i0 i1 i2 i3 i4 i5 f0 f1 f2 f3 f4 f5
            have hne : g11 ≠ g10 := by omega
            have X11 := X11.wr6 (r := g10) hne (.bool (qn q)) (.slice A8' (digs (qt q)).length c8') (.slice M8' (digs (qd q)).length m8') (.bool false) (.slice none 0 0) (.slice Z1 1 z1)
            have X10 := X10.put6 (.bool (qn q)) (.slice A8' (digs (qt q)).length c8') (.slice M8' (digs (qd q)).length m8') (.bool false) (.slice none 0 0) (.slice Z1 1 z1)
            have OZ1 := OZ1.far6 hnZ1g10 (.bool (qn q)) (.slice A8' (digs (qt q)).length c8') (.slice M8' (digs (qd q)).length m8') (.bool false) (.slice none 0 0) (.slice Z1 1 z1)
            have OZ2 := OZ2.far6 hnZ2g10 (.bool (qn q)) (.slice A8' (digs (qt q)).length c8') (.slice M8' (digs (qd q)).length m8') (.bool false) (.slice none 0 0) (.slice Z1 1 z1)
            obtain ⟨Wa, hWa⟩ : ∃ Wa, ((((((w64.setCell ⟨g10, 0, none⟩ (.bool (qn q))).setCell ⟨g10, 1, none⟩ (.slice A8' (digs (qt q)).length c8')).setCell ⟨g10, 2, none⟩ (.slice M8' (digs (qd q)).length m8')).setCell ⟨g10, 3, none⟩ (.bool false)).setCell ⟨g10, 4, none⟩ (.slice none 0 0)).setCell ⟨g10, 5, none⟩ (.slice Z1 1 z1)) = Wa := ⟨_, rfl⟩
            rw [hWa]
            unfold wr6 wr3 at X10 X11 OZ1 OZ2 BBa
            rw [hWa] at X10 X11 OZ1 OZ2 BBa
            clear hWa
            have i0 := X11.cell 0
            have i1 := X11.cell 1
            have i2 := X11.cell 2
            have i3 := X11.cell 3
            have i4 := X11.cell 4
            have i5 := X11.cell 5
            have f0 := X11.frozen 0
            have f1 := X11.frozen 1
            have f2 := X11.frozen 2
            have f3 := X11.frozen 3
            have f4 := X11.frozen 4
            have f5 := X11.frozen 5
            refine AnyU.one 9 (by kernel_rfl) rfl (fun K hK => ?_)
            go_simp
            refine hK.out _ _ (.inl rfl) (fun _ => ?_)
            clear hK K
            try simp only [List.setIfInBounds_toArray, List.set_cons_zero, List.set_cons_succ]
            clear i0 i1 i2 i3 i4 i5 f0 f1 f2 f3 f4 f5
            refine AnyU.done (by kernel_rfl) (hQK.out _ _ ?_)
            go_wp2_with fail
            go_meet
            have BBb := wr6_below (b := g11) BBa hwg11 (.bool (qn s)) (.slice A9 (digs (qt s)).length c9) (.slice M9 (digs (qd s)).length m9) (.bool false) (.slice none 0 0) (.slice Z2 1 z2)
            have X10 := X10.wr6 (r := g11) (Ne.symm hne) (.bool (qn s)) (.slice A9 (digs (qt s)).length c9) (.slice M9 (digs (qd s)).length m9) (.bool false) (.slice none 0 0) (.slice Z2 1 z2)
            have X11 := X11.put6 (.bool (qn s)) (.slice A9 (digs (qt s)).length c9) (.slice M9 (digs (qd s)).length m9) (.bool false) (.slice none 0 0) (.slice Z2 1 z2)
            have OZ1 := OZ1.far6 hnZ1g11 (.bool (qn s)) (.slice A9 (digs (qt s)).length c9) (.slice M9 (digs (qd s)).length m9) (.bool false) (.slice none 0 0) (.slice Z2 1 z2)
            have OZ2 := OZ2.far6 hnZ2g11 (.bool (qn s)) (.slice A9 (digs (qt s)).length c9) (.slice M9 (digs (qd s)).length m9) (.bool false) (.slice none 0 0) (.slice Z2 1 z2)
            exact ⟨g10, g11, Z1, z1, Z2, z2, rfl, rfl, k13.nx BBb, X10, X11, O8.below BBb (Nat.le_refl _), P8.below BBb (Nat.le_refl _), OZ1.base_le hwc, O9.below BBb (Nat.le_refl _), P9.below BBb (Nat.le_refl _), OZ2.base_le hwc, by omega, by omega⟩
      case rest =>
        clear k13 s8 s9 O8 P8 O9 P9 hwc
        obtain ⟨g10, g11, Z1, z1, Z2, z2, rfl, rfl, k13, s10, s11, O8, P8, OZ1, O9, P9, OZ2, hh10, hh11⟩ := hcut
        have i0 := s10.cell 0
        have i1 := s10.cell 1
        have i2 := s10.cell 2
        have i3 := s10.cell 3
        have i4 := s10.cell 4
        have i5 := s10.cell 5
        by_cases hbq : qw q ≤ 512 ∧ qw (0 : Rat) ≤ 512
        rotate_left
        · rw [decide_eq_false hbq] at hlq
          have hA : A_ = dm0 4 := by
            rw [← hA_.out]
            unfold dmG fitQ
            rw [if_neg hbq]
            rfl
          clear hA_
          subst hA
          go_wp2_with fail
          refine (hlq _ _ ⟨A8', c8', M8', m8', none, 0, Z1, z1, rfl, O8.rw, P8.rw, RW.nil _ _ _ _, OZ1.rw⟩).mono ?_; rintro e w60 ⟨rfl, B60⟩
          have k13 := k13.nx B60
          have hR1 := k13.2.2.1
          have ky := k13.putq (.bool false) (.slice none 0 0) (.slice none 0 0) (.bool false) (.slice none 0 0) (.slice none 0 0)
          have sq := hR1.put6 (.bool false) (.slice none 0 0) (.slice none 0 0) (.bool false) (.slice none 0 0) (.slice none 0 0)
          obtain ⟨W1, hW1⟩ : ∃ W1, W1 = wr6 w60 (w.heap.size + 2) (.bool false) (.slice none 0 0) (.slice none 0 0) (.bool false) (.slice none 0 0) (.slice none 0 0) := ⟨_, rfl⟩
          rw [← hW1] at ky sq
          have hR2 := ky.2.2.2.1
          go_wp2_with ((refine wp_st6 rfl (.tmp 4) (.tmp 72) rfl _ rfl _ _ _ _ _ _ rfl hR1 rfl rfl rfl rfl rfl rfl ?_; rw [← hW1]; clear hW1; refine wp_st6 rfl (.tmp 5) (.tmp 73) rfl _ rfl _ _ _ _ _ _ rfl hR2 rfl rfl rfl rfl rfl rfl ?_))
          have kz := ky.putr (.bool false) (.slice none 0 0) (.slice none 0 0) (.bool false) (.slice none 0 0) (.slice none 0 0)
          have sq := sq.wr6 (r := w.heap.size + 3) (by omega) (.bool false) (.slice none 0 0) (.slice none 0 0) (.bool false) (.slice none 0 0) (.slice none 0 0)
          have sr := hR2.put6 (.bool false) (.slice none 0 0) (.slice none 0 0) (.bool false) (.slice none 0 0) (.slice none 0 0)
          have q0' := sq.cell 0
          have q1' := sq.cell 1
          have q2' := sq.cell 2
          have q3' := sq.cell 3
          have q4' := sq.cell 4
          have q5' := sq.cell 5
          have r0' := sr.cell 0
          have r1' := sr.cell 1
          have r2' := sr.cell 2
          have r3' := sr.cell 3
          have r4' := sr.cell 4
          have r5' := sr.cell 5
          refine bodyPost_ret (v := .tuple #[.agg #[.bool false, .slice none 0 0, .slice none 0 0, .bool false, .slice none 0 0, .slice none 0 0], .agg #[.bool false, .slice none 0 0, .slice none 0 0, .bool false, .slice none 0 0, .slice none 0 0], .int .i64 4]) (by simp [results, q0', q1', q2', q3', q4', q5', r0', r1', r2', r3', r4', r5', go_sem]) rfl ?_
          exact retNN_nil 4 kz.2.2.2.2
        rw [decide_eq_true hbq] at hlq
        go_wp2_with fail
        refine (hlq _ _ ⟨A8', c8', M8', m8', none, 0, Z1, z1, rfl, O8.rw, P8.rw, RW.nil _ _ _ _, OZ1.rw⟩).mono ?_; rintro e w60 ⟨rfl, B60⟩
        have k13 := k13.nx B60
        have s10 := s10.nx B60
        have s11 := s11.nx B60
        have O8 := O8.below B60 (Nat.le_refl _)
        have P8 := P8.below B60 (Nat.le_refl _)
        have OZ1 := OZ1.below B60 (Nat.le_refl _)
        have O9 := O9.below B60 (Nat.le_refl _)
        have P9 := P9.below B60 (Nat.le_refl _)
        have OZ2 := OZ2.below B60 (Nat.le_refl _)
        clear i0 i1 i2 i3 i4 i5 hlq B60
        have j0 := s11.cell 0
        have j1 := s11.cell 1
        have j2 := s11.cell 2
        have j3 := s11.cell 3
        have j4 := s11.cell 4
        have j5 := s11.cell 5
        by_cases hbs : qw s ≤ 512 ∧ qw (0 : Rat) ≤ 512
        rotate_left
        · rw [decide_eq_false hbs] at hls
          have hA : A_ = dm0 4 := by
            rw [← hA_.out]
            unfold dmG fitQ
            rw [if_pos hbq, if_neg hbs]
            rfl
          clear hA_
          subst hA
          go_wp2_with fail
          refine (hls _ _ ⟨A9, c9, M9, m9, none, 0, Z2, z2, rfl, O9.rw, P9.rw, RW.nil _ _ _ _, OZ2.rw⟩).mono ?_; rintro e w61 ⟨rfl, B61⟩
          have k13 := k13.nx B61
          have hR1 := k13.2.2.1
          have ky := k13.putq (.bool false) (.slice none 0 0) (.slice none 0 0) (.bool false) (.slice none 0 0) (.slice none 0 0)
          have sq := hR1.put6 (.bool false) (.slice none 0 0) (.slice none 0 0) (.bool false) (.slice none 0 0) (.slice none 0 0)
          obtain ⟨W1, hW1⟩ : ∃ W1, W1 = wr6 w61 (w.heap.size + 2) (.bool false) (.slice none 0 0) (.slice none 0 0) (.bool false) (.slice none 0 0) (.slice none 0 0) := ⟨_, rfl⟩
          rw [← hW1] at ky sq
          have hR2 := ky.2.2.2.1
          go_wp2_with ((refine wp_st6 rfl (.tmp 4) (.tmp 72) rfl _ rfl _ _ _ _ _ _ rfl hR1 rfl rfl rfl rfl rfl rfl ?_; rw [← hW1]; clear hW1; refine wp_st6 rfl (.tmp 5) (.tmp 73) rfl _ rfl _ _ _ _ _ _ rfl hR2 rfl rfl rfl rfl rfl rfl ?_))
          have kz := ky.putr (.bool false) (.slice none 0 0) (.slice none 0 0) (.bool false) (.slice none 0 0) (.slice none 0 0)
          have sq := sq.wr6 (r := w.heap.size + 3) (by omega) (.bool false) (.slice none 0 0) (.slice none 0 0) (.bool false) (.slice none 0 0) (.slice none 0 0)
          have sr := hR2.put6 (.bool false) (.slice none 0 0) (.slice none 0 0) (.bool false) (.slice none 0 0) (.slice none 0 0)
          have q0' := sq.cell 0
          have q1' := sq.cell 1
          have q2' := sq.cell 2
          have q3' := sq.cell 3
          have q4' := sq.cell 4
          have q5' := sq.cell 5
          have r0' := sr.cell 0
          have r1' := sr.cell 1
          have r2' := sr.cell 2
          have r3' := sr.cell 3
          have r4' := sr.cell 4
          have r5' := sr.cell 5
          refine bodyPost_ret (v := .tuple #[.agg #[.bool false, .slice none 0 0, .slice none 0 0, .bool false, .slice none 0 0, .slice none 0 0], .agg #[.bool false, .slice none 0 0, .slice none 0 0, .bool false, .slice none 0 0, .slice none 0 0], .int .i64 4]) (by simp [results, q0', q1', q2', q3', q4', q5', r0', r1', r2', r3', r4', r5', go_sem]) rfl ?_
          exact retNN_nil 4 kz.2.2.2.2
        rw [decide_eq_true hbs] at hls
        go_wp2_with fail
        refine (hls _ _ ⟨A9, c9, M9, m9, none, 0, Z2, z2, rfl, O9.rw, P9.rw, RW.nil _ _ _ _, OZ2.rw⟩).mono ?_; rintro e w61 ⟨rfl, B61⟩
        have k13 := k13.nx B61
        have s10 := s10.nx B61
        have s11 := s11.nx B61
        have O8 := O8.below B61 (Nat.le_refl _)
        have P8 := P8.below B61 (Nat.le_refl _)
        have OZ1 := OZ1.below B61 (Nat.le_refl _)
        have O9 := O9.below B61 (Nat.le_refl _)
        have P9 := P9.below B61 (Nat.le_refl _)
        have OZ2 := OZ2.below B61 (Nat.le_refl _)
        clear j0 j1 j2 j3 j4 j5 hls B61
        have hA : A_ = (rwq q, rwq 0, rwq s, rwq 0, 0) := by
          rw [← hA_.out]
          unfold dmG fitQ
          rw [if_pos hbq, if_pos hbs]
          rfl
        rw [rwq_zero] at hA
        clear hA_
        subst hA
        have BD : Below w61.heap.size w61 w61.drew := Below.drew (Below.refl _ _)
        have k13 := k13.nx BD
        have s10 := s10.nx BD
        have s11 := s11.nx BD
        have O8 := O8.below BD (Nat.le_refl _)
        have P8 := P8.below BD (Nat.le_refl _)
        have OZ1 := OZ1.below BD (Nat.le_refl _)
        have O9 := O9.below BD (Nat.le_refl _)
        have P9 := P9.below BD (Nat.le_refl _)
        have OZ2 := OZ2.below BD (Nat.le_refl _)
        clear BD
        go_upto_region 16 with fail
        refine AnyU.regionQ 4 5 (fun w' => w'.cell? ⟨g10, 0, none⟩ = some (.bool (qn q)) ∧ w'.cell? ⟨g10, 1, none⟩ = some (.slice A8' (digs (qt q)).length c8') ∧ w'.cell? ⟨g10, 2, none⟩ = some (.slice M8' (digs (qd q)).length m8') ∧ w'.cell? ⟨g10, 3, none⟩ = some (.bool false) ∧ w'.cell? ⟨g10, 4, none⟩ = some (.slice none 0 0) ∧ w'.cell? ⟨g10, 5, none⟩ = some (.slice Z1 1 z1) ∧ w'.cell? ⟨g11, 0, none⟩ = some (.bool (qn s)) ∧ w'.cell? ⟨g11, 1, none⟩ = some (.slice A9 (digs (qt s)).length c9) ∧ w'.cell? ⟨g11, 2, none⟩ = some (.slice M9 (digs (qd s)).length m9) ∧ w'.cell? ⟨g11, 3, none⟩ = some (.bool false) ∧ w'.cell? ⟨g11, 4, none⟩ = some (.slice none 0 0) ∧ w'.cell? ⟨g11, 5, none⟩ = some (.slice Z2 1 z2)) rfl (by kernel_rfl) (by kernel_rfl) (by repeat (first | refine quiet_then ?_ | refine quiet_block ?_ | exact quiet_body)) ⟨(s10).cell 0, (s10).cell 1, (s10).cell 2, (s10).cell 3, (s10).cell 4, (s10).cell 5, (s11).cell 0, (s11).cell 1, (s11).cell 2, (s11).cell 3, (s11).cell 4, (s11).cell 5⟩ (fun Q hQK hq' hns hHeld => ?_)
        generalize w61.drew = w62 at *
        refine AnyU.next (i := 0) (v := ?_) hq' hns hHeld rfl rfl (by kernel_rfl) (Or.inl ⟨by rfl, ?_⟩) ?_
        rotate_left
        · intro w' hSw; (try dsimp only at hSw); go_simp <;> with_reducible rfl
        try simp only [List.setIfInBounds_toArray, List.set_cons_zero, List.set_cons_succ]
        refine AnyU.next (i := 1) (v := ?_) hq' hns hHeld rfl rfl (by kernel_rfl) (Or.inl ⟨by rfl, ?_⟩) ?_
        rotate_left
        · intro w' hSw; (try dsimp only at hSw); go_simp <;> with_reducible rfl
        try simp only [List.setIfInBounds_toArray, List.set_cons_zero, List.set_cons_succ]
        have hRC := k13.2.2.1
        have i0 := hRC.cell 0
        have i1 := hRC.cell 1
        have i2 := hRC.cell 2
        have i3 := hRC.cell 3
        have i4 := hRC.cell 4
        have i5 := hRC.cell 5
        have f0 := hRC.frozen 0
        have f1 := hRC.frozen 1
        have f2 := hRC.frozen 2
        have f3 := hRC.frozen 3
        have f4 := hRC.frozen 4
        have f5 := hRC.frozen 5
        have hr2 : g10 ≠ w.heap.size + 2 := by omega
        have hr3 : g11 ≠ w.heap.size + 2 := by omega
        have hr4 : g10 ≠ w.heap.size + 3 := by omega
        have hr5 : g11 ≠ w.heap.size + 3 := by omega
        refine AnyU.one 2 (by kernel_rfl) rfl (fun K hK => ?_)
        go_simp
        have s10 := s10.wr6 hr2 (.bool (qn q)) (.slice A8' (digs (qt q)).length c8') (.slice M8' (digs (qd q)).length m8') (.bool false) (.slice none 0 0) (.slice Z1 1 z1)
        have s11 := s11.wr6 hr3 (.bool (qn q)) (.slice A8' (digs (qt q)).length c8') (.slice M8' (digs (qd q)).length m8') (.bool false) (.slice none 0 0) (.slice Z1 1 z1)
        refine hK.out _ _ (.inr ⟨(s10).cell 0, (s10).cell 1, (s10).cell 2, (s10).cell 3, (s10).cell 4, (s10).cell 5, (s11).cell 0, (s11).cell 1, (s11).cell 2, (s11).cell 3, (s11).cell 4, (s11).cell 5⟩) (fun hHeld => ?_)
        have hHeld := hHeld.resolve_left (by decide)
        clear hK K hHeld
        try simp only [List.setIfInBounds_toArray, List.set_cons_zero, List.set_cons_succ]
        clear i0 i1 i2 i3 i4 i5 f0 f1 f2 f3 f4 f5
        have sq := hRC.put6 (.bool (qn q)) (.slice A8' (digs (qt q)).length c8') (.slice M8' (digs (qd q)).length m8') (.bool false) (.slice none 0 0) (.slice Z1 1 z1)
        have k13 := k13.putq (.bool (qn q)) (.slice A8' (digs (qt q)).length c8') (.slice M8' (digs (qd q)).length m8') (.bool false) (.slice none 0 0) (.slice Z1 1 z1)
        have O8 := O8.put6 (b := w.heap.size + 2) (by omega) (.bool (qn q)) (.slice A8' (digs (qt q)).length c8') (.slice M8' (digs (qd q)).length m8') (.bool false) (.slice none 0 0) (.slice Z1 1 z1)
        have P8 := P8.put6 (b := w.heap.size + 2) (by omega) (.bool (qn q)) (.slice A8' (digs (qt q)).length c8') (.slice M8' (digs (qd q)).length m8') (.bool false) (.slice none 0 0) (.slice Z1 1 z1)
        have OZ1 := OZ1.put6 (b := w.heap.size + 2) (by omega) (.bool (qn q)) (.slice A8' (digs (qt q)).length c8') (.slice M8' (digs (qd q)).length m8') (.bool false) (.slice none 0 0) (.slice Z1 1 z1)
        have O9 := O9.put6 (b := w.heap.size + 2) (by omega) (.bool (qn q)) (.slice A8' (digs (qt q)).length c8') (.slice M8' (digs (qd q)).length m8') (.bool false) (.slice none 0 0) (.slice Z1 1 z1)
        have P9 := P9.put6 (b := w.heap.size + 2) (by omega) (.bool (qn q)) (.slice A8' (digs (qt q)).length c8') (.slice M8' (digs (qd q)).length m8') (.bool false) (.slice none 0 0) (.slice Z1 1 z1)
        have OZ2 := OZ2.put6 (b := w.heap.size + 2) (by omega) (.bool (qn q)) (.slice A8' (digs (qt q)).length c8') (.slice M8' (digs (qd q)).length m8') (.bool false) (.slice none 0 0) (.slice Z1 1 z1)
        obtain ⟨Wa, hWa⟩ : ∃ Wa, ((((((w62.setCell ⟨w.heap.size + 2, 0, none⟩ (.bool (qn q))).setCell ⟨w.heap.size + 2, 1, none⟩ (.slice A8' (digs (qt q)).length c8')).setCell ⟨w.heap.size + 2, 2, none⟩ (.slice M8' (digs (qd q)).length m8')).setCell ⟨w.heap.size + 2, 3, none⟩ (.bool false)).setCell ⟨w.heap.size + 2, 4, none⟩ (.slice none 0 0)).setCell ⟨w.heap.size + 2, 5, none⟩ (.slice Z1 1 z1)) = Wa := ⟨_, rfl⟩
        rw [hWa]
        unfold wr6 wr3 at s10 s11 sq k13 O8 P8 OZ1 O9 P9 OZ2
        rw [hWa] at s10 s11 sq k13 O8 P8 OZ1 O9 P9 OZ2
        clear hWa hRC
        have hRC := k13.2.2.2.1
        have i0 := hRC.cell 0
        have i1 := hRC.cell 1
        have i2 := hRC.cell 2
        have i3 := hRC.cell 3
        have i4 := hRC.cell 4
        have i5 := hRC.cell 5
        have f0 := hRC.frozen 0
        have f1 := hRC.frozen 1
        have f2 := hRC.frozen 2
        have f3 := hRC.frozen 3
        have f4 := hRC.frozen 4
        have f5 := hRC.frozen 5
        refine AnyU.one 3 (by kernel_rfl) rfl (fun K hK => ?_)
        go_simp
        have s10 := s10.wr6 hr4 (.bool (qn s)) (.slice A9 (digs (qt s)).length c9) (.slice M9 (digs (qd s)).length m9) (.bool false) (.slice none 0 0) (.slice Z2 1 z2)
        have s11 := s11.wr6 hr5 (.bool (qn s)) (.slice A9 (digs (qt s)).length c9) (.slice M9 (digs (qd s)).length m9) (.bool false) (.slice none 0 0) (.slice Z2 1 z2)
        refine hK.out _ _ (.inr ⟨(s10).cell 0, (s10).cell 1, (s10).cell 2, (s10).cell 3, (s10).cell 4, (s10).cell 5, (s11).cell 0, (s11).cell 1, (s11).cell 2, (s11).cell 3, (s11).cell 4, (s11).cell 5⟩) (fun hHeld => ?_)
        clear hK K hHeld s10 s11
        try simp only [List.setIfInBounds_toArray, List.set_cons_zero, List.set_cons_succ]
        clear i0 i1 i2 i3 i4 i5 f0 f1 f2 f3 f4 f5
        have sr := hRC.put6 (.bool (qn s)) (.slice A9 (digs (qt s)).length c9) (.slice M9 (digs (qd s)).length m9) (.bool false) (.slice none 0 0) (.slice Z2 1 z2)
        have sq := sq.wr6 (r := w.heap.size + 3) (by omega) (.bool (qn s)) (.slice A9 (digs (qt s)).length c9) (.slice M9 (digs (qd s)).length m9) (.bool false) (.slice none 0 0) (.slice Z2 1 z2)
        have k13 := k13.putr (.bool (qn s)) (.slice A9 (digs (qt s)).length c9) (.slice M9 (digs (qd s)).length m9) (.bool false) (.slice none 0 0) (.slice Z2 1 z2)
        have O8 := O8.put6 (b := w.heap.size + 3) (by omega) (.bool (qn s)) (.slice A9 (digs (qt s)).length c9) (.slice M9 (digs (qd s)).length m9) (.bool false) (.slice none 0 0) (.slice Z2 1 z2)
        have P8 := P8.put6 (b := w.heap.size + 3) (by omega) (.bool (qn s)) (.slice A9 (digs (qt s)).length c9) (.slice M9 (digs (qd s)).length m9) (.bool false) (.slice none 0 0) (.slice Z2 1 z2)
        have OZ1 := OZ1.put6 (b := w.heap.size + 3) (by omega) (.bool (qn s)) (.slice A9 (digs (qt s)).length c9) (.slice M9 (digs (qd s)).length m9) (.bool false) (.slice none 0 0) (.slice Z2 1 z2)
        have O9 := O9.put6 (b := w.heap.size + 3) (by omega) (.bool (qn s)) (.slice A9 (digs (qt s)).length c9) (.slice M9 (digs (qd s)).length m9) (.bool false) (.slice none 0 0) (.slice Z2 1 z2)
        have P9 := P9.put6 (b := w.heap.size + 3) (by omega) (.bool (qn s)) (.slice A9 (digs (qt s)).length c9) (.slice M9 (digs (qd s)).length m9) (.bool false) (.slice none 0 0) (.slice Z2 1 z2)
        have OZ2 := OZ2.put6 (b := w.heap.size + 3) (by omega) (.bool (qn s)) (.slice A9 (digs (qt s)).length c9) (.slice M9 (digs (qd s)).length m9) (.bool false) (.slice none 0 0) (.slice Z2 1 z2)
        obtain ⟨Wb, hWb⟩ : ∃ Wb, ((((((Wa.setCell ⟨w.heap.size + 3, 0, none⟩ (.bool (qn s))).setCell ⟨w.heap.size + 3, 1, none⟩ (.slice A9 (digs (qt s)).length c9)).setCell ⟨w.heap.size + 3, 2, none⟩ (.slice M9 (digs (qd s)).length m9)).setCell ⟨w.heap.size + 3, 3, none⟩ (.bool false)).setCell ⟨w.heap.size + 3, 4, none⟩ (.slice none 0 0)).setCell ⟨w.heap.size + 3, 5, none⟩ (.slice Z2 1 z2)) = Wb := ⟨_, rfl⟩
        rw [hWb]
        unfold wr6 wr3 at sr sq k13 O8 P8 OZ1 O9 P9 OZ2
        rw [hWb] at sr sq k13 O8 P8 OZ1 O9 P9 OZ2
        clear hWb hRC
        refine AnyU.one 4 (by kernel_rfl) rfl (fun K hK => ?_)
        go_simp
        refine hK.out _ _ (.inl rfl) (fun _ => ?_)
        clear hK K
        try simp only [List.setIfInBounds_toArray, List.set_cons_zero, List.set_cons_succ]
        refine AnyU.done (by kernel_rfl) (hQK.out _ _ ?_)
        have q0' := sq.cell 0
        have q1' := sq.cell 1
        have q2' := sq.cell 2
        have q3' := sq.cell 3
        have q4' := sq.cell 4
        have q5' := sq.cell 5
        have r0' := sr.cell 0
        have r1' := sr.cell 1
        have r2' := sr.cell 2
        have r3' := sr.cell 3
        have r4' := sr.cell 4
        have r5' := sr.cell 5
        go_wp2_with fail
        refine bodyPost_ret (v := .tuple #[.agg #[.bool (qn q), .slice A8' (digs (qt q)).length c8', .slice M8' (digs (qd q)).length m8', .bool false, .slice none 0 0, .slice Z1 1 z1], .agg #[.bool (qn s), .slice A9 (digs (qt s)).length c9, .slice M9 (digs (qd s)).length m9, .bool false, .slice none 0 0, .slice Z2 1 z2], .int .i64 0]) (by simp [results, q0', q1', q2', q3', q4', q5', r0', r1', r2', r3', r4', r5', go_sem]) rfl ?_
        have hle : w.heap.size ≤ w.heap.size + 4 := by omega
        exact ⟨A8', c8', M8', m8', none, 0, Z1, z1, A9, c9, M9, m9, none, 0, Z2, z2, rfl, ⟨O8.base_le hle, P8.base_le hle, OW.nil _ _, OZ1.base_le hle⟩, ⟨O9.base_le hle, P9.base_le hle, OW.nil _ _, OZ2.base_le hle⟩, k13.2.2.2.2⟩

end Go.Proofs.Ytdkejndagicgjaa
