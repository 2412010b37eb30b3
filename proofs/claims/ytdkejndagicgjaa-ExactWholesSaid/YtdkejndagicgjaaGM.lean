/- Merged texts: ExZ, ExM. -/
import Derived.Test.YtdkejndagicgjaaGK
namespace Go.Proofs.Ytdkejndagicgjaa
open Go.RowKit

/-- the greatest whole number that is not above a fraction -/
def flr (x : Rat) : Int := sgn (qn x) (if qn x = true ∧ qt x % qd x ≠ 0 then qt x / qd x + 1 else qt x / qd x)


set_option maxRecDepth 100000 in
set_option maxHeartbeats 4000000 in
theorem floor_down (A1 D1 : Option Addr) (c1 d1 : Nat) (a b : List Nat) (q : Rat) (N R : Nat) (w : World) (h1 : RW w w.heap.size A1 c1 a) (h2 : RW w w.heap.size D1 d1 b)
    (hO : ∀ w', RW w' w'.heap.size A1 c1 a → RW w' w'.heap.size D1 d1 b → Calls Try.prog 85 #[.slice A1 a.length c1, .slice D1 b.length d1] w' (RetQ w' N R)) (hN : N < Wp 14000) (hq : ((sgn true N : Int) : Rat) = q) (h0 : R = 0) :
    Calls Try.prog 54 #[.agg #[.bool true, .slice A1 a.length c1, .slice D1 b.length d1]] w (RetR w q) := by
  have k0 := S2.new w [.bool true, .slice A1 a.length c1, .slice D1 b.length d1] [.bool false, .slice none 0 0, .slice none 0 0] 24 24 3
  have i0 := k0.1.cell 0
  have i1 := k0.1.cell 1
  have i2 := k0.1.cell 2
  have C0 := k0.2.2
  have lN := (digs_len_le (n := N)).2 hN
  have hW := fun A c (w' : World) h => whole_any true A c _ (digs N) w' rfl h (Nrm_digs _) (by omega)
  simp only [val_digs, hq] at hW
  subst h0
  have l0 : (digs 0).length = 0 := by rw [digs_zero]; rfl
  go_enter Try.func54, Try.ntmps54
  go_wp2_with fail
  refine (hO _ (st h1 C0) (st h2 C0)).mono ?_; rintro e w3 ⟨A3, c3, D3, d3, rfl, O3, P3, B3⟩
  have k3 := k0.nx B3
  have j0 := k3.1.cell 0
  rw [l0]
  have O6 := O3
  have k6 := k3
  go_wp2_with fail
  refine (hW _ _ _ O6.rw).mono ?_; rintro e w7 ⟨A7, c7, D7, d7, rfl, O7, P7, B7⟩
  have k7 := k6.nx B7
  have hRC := k7.2.1
  have m0 := hRC.cell 0
  have m1 := hRC.cell 1
  have m2 := hRC.cell 2
  have f0 := hRC.frozen 0
  have f1 := hRC.frozen 1
  have f2 := hRC.frozen 2
  have s6 := hRC.put3 (.bool (qn q)) (.slice A7 (digs (qt q)).length c7) (.slice D7 (digs (qd q)).length d7)
  have B6 := put3_below (b := w.heap.size + 1) k7.2.2 (by omega) (.bool (qn q)) (.slice A7 (digs (qt q)).length c7) (.slice D7 (digs (qd q)).length d7)
  have hb := k6.2.1.2
  have Oa := O7.put3 (b := w.heap.size + 1) hb (.bool (qn q)) (.slice A7 (digs (qt q)).length c7) (.slice D7 (digs (qd q)).length d7)
  have Ob := P7.put3 (b := w.heap.size + 1) hb (.bool (qn q)) (.slice A7 (digs (qt q)).length c7) (.slice D7 (digs (qd q)).length d7)
  have r0 := s6.cell 0
  have r1 := s6.cell 1
  have r2 := s6.cell 2
  unfold wr3 at s6 B6 Oa Ob r0 r1 r2
  go_wp2_with fail
  refine bodyPost_ret (v := (.agg #[.bool (qn q), .slice A7 (digs (qt q)).length c7, .slice D7 (digs (qd q)).length d7])) (by simp [results, r0, r1, r2, go_sem]) rfl ?_
  have hle := Nat.le_of_lt (Nat.lt_of_succ_lt hb)
  exact ⟨A7, c7, D7, d7, rfl, Oa.base_le hle, Ob.base_le hle, B6⟩

set_option maxRecDepth 100000 in
set_option maxHeartbeats 4000000 in
theorem floor_up (A1 D1 : Option Addr) (c1 d1 : Nat) (a b : List Nat) (q : Rat) (N R : Nat) (w : World) (h1 : RW w w.heap.size A1 c1 a) (h2 : RW w w.heap.size D1 d1 b)
    (hO : ∀ w', RW w' w'.heap.size A1 c1 a → RW w' w'.heap.size D1 d1 b → Calls Try.prog 85 #[.slice A1 a.length c1, .slice D1 b.length d1] w' (RetQ w' N R)) (hN : N < Wp 14000) (hq : ((sgn false N : Int) : Rat) = q) :
    Calls Try.prog 54 #[.agg #[.bool false, .slice A1 a.length c1, .slice D1 b.length d1]] w (RetR w q) := by
  have k0 := S2.new w [.bool false, .slice A1 a.length c1, .slice D1 b.length d1] [.bool false, .slice none 0 0, .slice none 0 0] 24 24 3
  have i0 := k0.1.cell 0
  have i1 := k0.1.cell 1
  have i2 := k0.1.cell 2
  have C0 := k0.2.2
  have lN := (digs_len_le (n := N)).2 hN
  have hW := fun A c (w' : World) h => whole_any false A c _ (digs N) w' rfl h (Nrm_digs _) (by omega)
  simp only [val_digs, hq] at hW
  go_enter Try.func54, Try.ntmps54
  go_wp2_with fail
  refine (hO _ (st h1 C0) (st h2 C0)).mono ?_; rintro e w3 ⟨A3, c3, D3, d3, rfl, O3, P3, B3⟩
  have k3 := k0.nx B3
  have j0 := k3.1.cell 0
  have O6 := O3
  have k6 := k3
  go_wp2_with fail
  refine (hW _ _ _ O6.rw).mono ?_; rintro e w7 ⟨A7, c7, D7, d7, rfl, O7, P7, B7⟩
  have k7 := k6.nx B7
  have hRC := k7.2.1
  have m0 := hRC.cell 0
  have m1 := hRC.cell 1
  have m2 := hRC.cell 2
  have f0 := hRC.frozen 0
  have f1 := hRC.frozen 1
  have f2 := hRC.frozen 2
  have s6 := hRC.put3 (.bool (qn q)) (.slice A7 (digs (qt q)).length c7) (.slice D7 (digs (qd q)).length d7)
  have B6 := put3_below (b := w.heap.size + 1) k7.2.2 (by omega) (.bool (qn q)) (.slice A7 (digs (qt q)).length c7) (.slice D7 (digs (qd q)).length d7)
  have hb := k6.2.1.2
  have Oa := O7.put3 (b := w.heap.size + 1) hb (.bool (qn q)) (.slice A7 (digs (qt q)).length c7) (.slice D7 (digs (qd q)).length d7)
  have Ob := P7.put3 (b := w.heap.size + 1) hb (.bool (qn q)) (.slice A7 (digs (qt q)).length c7) (.slice D7 (digs (qd q)).length d7)
  have r0 := s6.cell 0
  have r1 := s6.cell 1
  have r2 := s6.cell 2
  unfold wr3 at s6 B6 Oa Ob r0 r1 r2
  go_wp2_with fail
  refine bodyPost_ret (v := (.agg #[.bool (qn q), .slice A7 (digs (qt q)).length c7, .slice D7 (digs (qd q)).length d7])) (by simp [results, r0, r1, r2, go_sem]) rfl ?_
  have hle := Nat.le_of_lt (Nat.lt_of_succ_lt hb)
  exact ⟨A7, c7, D7, d7, rfl, Oa.base_le hle, Ob.base_le hle, B6⟩

set_option maxRecDepth 100000 in
set_option maxHeartbeats 4000000 in
theorem floor_less (A1 D1 : Option Addr) (c1 d1 : Nat) (a b : List Nat) (q : Rat) (N R : Nat) (w : World) (h1 : RW w w.heap.size A1 c1 a) (h2 : RW w w.heap.size D1 d1 b)
    (hO : ∀ w', RW w' w'.heap.size A1 c1 a → RW w' w'.heap.size D1 d1 b → Calls Try.prog 85 #[.slice A1 a.length c1, .slice D1 b.length d1] w' (RetQ w' N R)) (hN : N < Wp 14000) (hq : ((sgn true (N + 1) : Int) : Rat) = q) (h0 : R ≠ 0) :
    Calls Try.prog 54 #[.agg #[.bool true, .slice A1 a.length c1, .slice D1 b.length d1]] w (RetR w q) := by
  have k0 := S2.new w [.bool true, .slice A1 a.length c1, .slice D1 b.length d1] [.bool false, .slice none 0 0, .slice none 0 0] 24 24 3
  have i0 := k0.1.cell 0
  have i1 := k0.1.cell 1
  have i2 := k0.1.cell 2
  have C0 := k0.2.2
  have lN := (digs_len_le (n := N)).2 hN
  have hW := fun A c (w' : World) h => whole_any true A c _ (digs (N + 1)) w' rfl h (Nrm_digs _) (Nat.le_trans (digs_add (k := 14000) (by omega) (by rw [digs_one1]; simp)) (by omega))
  simp only [val_digs, hq] at hW
  have l0 : (digs R).length ≠ 0 := fun h => h0 (digs_len0.1 h)
  generalize hlr : (digs R).length = lr at *
  have l1 : (0 : Int) < (lr : Int) := by omega
  have l2 : decide ((0 : Int) < (lr : Int)) = true := by simp; omega
  go_enter Try.func54, Try.ntmps54
  go_wp2_with fail
  refine (hO _ (st h1 C0) (st h2 C0)).mono ?_; rintro e w3 ⟨A3, c3, D3, d3, rfl, O3, P3, B3⟩
  have k3 := k0.nx B3
  have j0 := k3.1.cell 0
  rw [hlr]
  have L3 := bal w3 (.cells #[.int .u32 (1 : Nat)] 60)
  have r1 := RW.one w3 60 (show 1 < 4294967296 by omega)
  have hP := plus_any A3 (some ⟨w3.heap.size, 0, none⟩) c3 1 (digs N).length 1 (digs N) [1] _ rfl rfl (st O3.rw L3) (r1.more (by simp)) (by omega) (by simp)
  rw [val_digs, val_one] at hP
  go_wp2_with fail
  refine hP.mono ?_; rintro e w5 ⟨A6, c6, rfl, O6, B5⟩
  have k6 := (k3.nx L3).nx B5
  have j0 := k6.1.cell 0
  go_wp2_with fail
  refine (hW _ _ _ O6.rw).mono ?_; rintro e w7 ⟨A7, c7, D7, d7, rfl, O7, P7, B7⟩
  have k7 := k6.nx B7
  have hRC := k7.2.1
  have m0 := hRC.cell 0
  have m1 := hRC.cell 1
  have m2 := hRC.cell 2
  have f0 := hRC.frozen 0
  have f1 := hRC.frozen 1
  have f2 := hRC.frozen 2
  have s6 := hRC.put3 (.bool (qn q)) (.slice A7 (digs (qt q)).length c7) (.slice D7 (digs (qd q)).length d7)
  have B6 := put3_below (b := w.heap.size + 1) k7.2.2 (by omega) (.bool (qn q)) (.slice A7 (digs (qt q)).length c7) (.slice D7 (digs (qd q)).length d7)
  have hb := k6.2.1.2
  have Oa := O7.put3 (b := w.heap.size + 1) hb (.bool (qn q)) (.slice A7 (digs (qt q)).length c7) (.slice D7 (digs (qd q)).length d7)
  have Ob := P7.put3 (b := w.heap.size + 1) hb (.bool (qn q)) (.slice A7 (digs (qt q)).length c7) (.slice D7 (digs (qd q)).length d7)
  have r0 := s6.cell 0
  have r1 := s6.cell 1
  have r2 := s6.cell 2
  unfold wr3 at s6 B6 Oa Ob r0 r1 r2
  go_wp2_with fail
  refine bodyPost_ret (v := (.agg #[.bool (qn q), .slice A7 (digs (qt q)).length c7, .slice D7 (digs (qd q)).length d7])) (by simp [results, r0, r1, r2, go_sem]) rfl ?_
  have hle := Nat.le_of_lt (Nat.lt_of_succ_lt hb)
  exact ⟨A7, c7, D7, d7, rfl, Oa.base_le hle, Ob.base_le hle, B6⟩

theorem efloor_any (V : Value) (x : Rat) (w : World) (hx : RQ w w.heap.size V x) (hb : qw x ≤ 14000) :
    Calls Try.prog 54 #[V] w (RetR w ((flr x : Int) : Rat)) := by
  obtain ⟨A, c, D, d, rfl, r1, r2⟩ := hx
  have t1 := qw_t x
  have hO : ∀ w', RW w' w'.heap.size A c (digs (qt x)) → RW w' w'.heap.size D d (digs (qd x)) → Calls Try.prog 85 #[.slice A (digs (qt x)).length c, .slice D (digs (qd x)).length d] w' (RetQ w' (qt x / qd x) (qt x % qd x)) := fun w' h1 h2 => by
    have h := over_any A D c d _ _ _ _ w' rfl rfl h1 h2 (Nrm_digs _) (Nrm_digs _) (by rw [val_digs]; exact qd_pos x) (by omega)
    rw [val_digs, val_digs] at h
    exact h
  have hN : qt x / qd x < Wp 14000 := Nat.lt_of_le_of_lt (Nat.div_le_self _ _) (digs_len_le.1 (Nat.le_trans t1 hb))
  unfold flr
  cases hs : qn x with
  | false =>
    rw [if_neg (by simp)]
    exact floor_up A D c d _ _ _ _ _ w r1 r2 hO hN rfl
  | true =>
    by_cases h0 : qt x % qd x = 0
    · rw [if_neg (by simp [h0])]
      exact floor_down A D c d _ _ _ _ _ w r1 r2 hO hN rfl h0
    · rw [if_pos ⟨rfl, h0⟩]
      exact floor_less A D c d _ _ _ _ _ w r1 r2 hO hN rfl h0

end Go.Proofs.Ytdkejndagicgjaa
namespace Go.Proofs.Ytdkejndagicgjaa
open Go.RowKit

/-- a fraction's size -/
def ab (u : Rat) : Rat := if qn u = true then -u else u
theorem ab_t (u : Rat) : qt (ab u) = qt u := by unfold ab; split; exact q_neg_t u; rfl
theorem ab_d (u : Rat) : qd (ab u) = qd u := by unfold ab; split; exact q_neg_d u; rfl
theorem ab_n (u : Rat) : qn (ab u) = false := by
  unfold ab
  split
  · next h => rw [q_neg_n, h]; rfl
  · next h => simpa using h
theorem qw_ab (u : Rat) : qw (ab u) = qw u := by unfold qw; rw [ab_t, ab_d]
theorem qw_int (i : Int) {k : Nat} (h : (digs i.natAbs).length ≤ k) (hk : 1 ≤ k) : qw (i : Rat) ≤ k := by
  unfold qw
  rw [qt_int, qd_int, digs_one1]
  exact Nat.max_le.2 ⟨h, hk⟩
theorem qw_flr (x : Rat) : qw ((flr x : Int) : Rat) ≤ qw x + 1 := by
  have h1 := qw_t x
  have h2 : (digs (qt x / qd x)).length ≤ qw x := Nat.le_trans (digs_mono (Nat.div_le_self _ _)) h1
  refine qw_int _ ?_ (by omega)
  unfold flr
  generalize qt x / qd x = k at *
  split
  · have h3 : (sgn (qn x) (k + 1)).natAbs = k + 1 := by unfold sgn; split <;> omega
    rw [h3]
    by_cases h0 : qw x = 0
    · rw [h0] at h2
      have h4 := digs_len0.1 (Nat.le_zero.1 h2)
      rw [h4, h0, Nat.zero_add, digs_one1]
      simp
    · exact digs_add h2 (by rw [digs_one1]; simp; omega)
  · have h3 : (sgn (qn x) k).natAbs = k := by unfold sgn; split <;> omega
    rw [h3]
    omega
/-- what is kept: two numbers, two results -/
def D4 (w : World) (b : Nat) (l1 l2 : List Value) (w' : World) : Prop := SB w' b l1 ∧ SB w' (b + 1) l2 ∧ RC w' (b + 2) 6 ∧ RC w' (b + 3) 6 ∧ Below b w w'
section
variable {w w1 w2 wc : World} {b g g2 n : Nat} {l1 l2 l3 : List Value}
theorem D4.new (w : World) (l1 l2 l3 l4 : List Value) (t1 t2 t3 t4 : TypeId) (h3 : 6 = l3.length := by rfl) (h4 : 6 = l4.length := by rfl) :
    D4 w w.heap.size l1 l2 ((((w.alloc (.cells l1.toArray t1)).alloc (.cells l2.toArray t2)).alloc (.cells l3.toArray t3)).alloc (.cells l4.toArray t4)) := by
  have h := S3.new w l1 l2 l3 t1 t2 t3 6 h3
  have s4 := SB.new (((w.alloc (.cells l1.toArray t1)).alloc (.cells l2.toArray t2)).alloc (.cells l3.toArray t3)) l4 t4
  rw [show (((w.alloc (.cells l1.toArray t1)).alloc (.cells l2.toArray t2)).alloc (.cells l3.toArray t3)).heap.size = w.heap.size + 3 by simp] at s4
  have B := bal (((w.alloc (.cells l1.toArray t1)).alloc (.cells l2.toArray t2)).alloc (.cells l3.toArray t3)) (.cells l4.toArray t4)
  have h' := h.nx B
  exact ⟨h'.1, h'.2.1, h'.2.2.1, s4.rc h4, h'.2.2.2⟩
theorem D4.nx (h : D4 w b l1 l2 w1) (hb : Below w1.heap.size w1 w2) : D4 w b l1 l2 w2 :=
  ⟨h.1.nx hb, h.2.1.nx hb, h.2.2.1.nx hb, h.2.2.2.1.nx hb, h.2.2.2.2.trans (hb.mono (by have := h.1.2; omega))⟩
theorem D4.wr3 (h : D4 w b l1 l2 w1) (hg : b + 3 < g) (x y z : Value) : D4 w b l1 l2 (Go.Proofs.Ytdkejndagicgjaa.wr3 w1 g x y z) :=
  ⟨h.1.wr3 (by omega) x y z, h.2.1.wr3 (by omega) x y z, (h.2.2.1.sb.wr3 (by omega) x y z).rc (by simp), (h.2.2.2.1.sb.wr3 (by omega) x y z).rc (by simp), wr3_below h.2.2.2.2 (by omega) x y z⟩
theorem D4.putq (h : D4 w b l1 l2 w1) (x y z x' y' z' : Value) : D4 w b l1 l2 (Go.Proofs.Ytdkejndagicgjaa.wr6 w1 (b + 2) x y z x' y' z') :=
  ⟨h.1.wr6 (by omega) x y z x' y' z', h.2.1.wr6 (by omega) x y z x' y' z', (h.2.2.1.put6 x y z x' y' z').rc, (h.2.2.2.1.sb.wr6 (by omega) x y z x' y' z').rc (by simp), wr6_below h.2.2.2.2 (by omega) x y z x' y' z'⟩
theorem D4.putr (h : D4 w b l1 l2 w1) (x y z x' y' z' : Value) : D4 w b l1 l2 (Go.Proofs.Ytdkejndagicgjaa.wr6 w1 (b + 3) x y z x' y' z') :=
  ⟨h.1.wr6 (by omega) x y z x' y' z', h.2.1.wr6 (by omega) x y z x' y' z', (h.2.2.1.sb.wr6 (by omega) x y z x' y' z').rc (by simp), (h.2.2.2.1.put6 x y z x' y' z').rc, wr6_below h.2.2.2.2 (by omega) x y z x' y' z'⟩
theorem D4.re {o o' : Obj} (h : D4 w b l1 l2 (w1.alloc o)) (hg : b + 3 < w1.heap.size) : D4 w b l1 l2 (w1.alloc o') := by
  refine ⟨sbre (by omega) h.1, sbre (by omega) h.2.1, (sbre (by omega) h.2.2.1.sb).rc (by simp), (sbre hg h.2.2.2.1.sb).rc (by simp), ?_⟩
  have h3 := h.2.2.2.2
  have e : ∀ (q : Obj) (k : Nat), k < w1.heap.size → (w1.alloc q).heap[k]? = w1.heap[k]? := fun q k hk => (bal w1 q).block k hk
  exact ⟨h3.os, h3.tape, h3.output, by have := h3.size; simpa using this, fun k hk => by
    rw [e o' k (by omega), ← e o k (by omega)]; exact h3.block k hk⟩
/-- besides, a fraction in a block of its own -/
def D5 (w wc : World) (b : Nat) (l1 l2 : List Value) (g : Nat) (l3 : List Value) (w' : World) : Prop := D4 w b l1 l2 w' ∧ SB w' g l3 ∧ Below wc.heap.size wc w'
theorem D5.nx (h : D5 w wc b l1 l2 g l3 w1) (hb : Below w1.heap.size w1 w2) : D5 w wc b l1 l2 g l3 w2 := ⟨h.1.nx hb, h.2.1.nx hb, bt h.2.2 hb⟩
theorem D5.dr (h : D5 w wc b l1 l2 g l3 w1) : D5 w wc b l1 l2 g l3 w1.drew := h.nx (Below.drew (Below.refl _ _))
theorem D5.wr3 (h : D5 w wc b l1 l2 g l3 w1) (hg : b + 3 < g2 ∧ g < g2 ∧ wc.heap.size ≤ g2) (x y z : Value) : D5 w wc b l1 l2 g l3 (Go.Proofs.Ytdkejndagicgjaa.wr3 w1 g2 x y z) :=
  ⟨h.1.wr3 hg.1 x y z, h.2.1.wr3 (by omega) x y z, wr3_below h.2.2 hg.2.2 x y z⟩
theorem D5.re {o o' : Obj} (h : D5 w wc b l1 l2 g l3 (w1.alloc o)) (hg : b + 3 < w1.heap.size ∧ g < w1.heap.size ∧ wc.heap.size ≤ w1.heap.size) : D5 w wc b l1 l2 g l3 (w1.alloc o') := by
  refine ⟨h.1.re hg.1, sbre hg.2.1 h.2.1, ?_⟩
  have h3 := h.2.2
  have e : ∀ (q : Obj) (k : Nat), k < w1.heap.size → (w1.alloc q).heap[k]? = w1.heap[k]? := fun q k hk => (bal w1 q).block k hk
  exact ⟨h3.os, h3.tape, h3.output, by have := h3.size; simpa using this, fun k hk => by
    rw [e o' k (by omega), ← e o k (by omega)]; exact h3.block k hk⟩
theorem gtd {l : List Value} (_ : SB w g2 l) (h : b + 3 < g2 ∧ g < g2 ∧ n ≤ g2) : b + 3 < g2 ∧ g < g2 ∧ n ≤ g2 := h
end
def OWs (w : World) (base : Nat) (L : List (Option Addr × Nat × List Nat)) : Prop := ∀ t ∈ L, OW w base t.1 t.2.1 t.2.2
/-- both results as they stand -/
def E6 (w : World) (b : Nat) (l1 l2 : List Value) (base : Nat) (L : List (Option Addr × Nat × List Nat)) (w' : World) : Prop := SB w' (b + 2) l1 ∧ SB w' (b + 3) l2 ∧ Below b w w' ∧ OWs w' base L
section
variable {w w1 : World} {b base : Nat} {l1 l2 : List Value} {L : List (Option Addr × Nat × List Nat)} {x y z x' y' z' : Value}
theorem E6.dr (h : E6 w b l1 l2 base L w1) : E6 w b l1 l2 base L w1.drew := ⟨h.1, h.2.1, bdN h.2.2.1 1, h.2.2.2⟩
theorem E6.putq (h : E6 w b [x, y, z, x', y', z'] l2 base L w1) (hb : b + 3 < base) : E6 w b [x, y, z, x', y', z'] l2 base L (Go.Proofs.Ytdkejndagicgjaa.wr6 w1 (b + 2) x y z x' y' z') :=
  ⟨h.1.put6 x y z x' y' z', h.2.1.wr6 (by omega) x y z x' y' z', wr6_below h.2.2.1 (by omega) x y z x' y' z', fun t ht => (h.2.2.2 t ht).put6 (by omega) x y z x' y' z'⟩
theorem E6.putr (h : E6 w b l1 [x, y, z, x', y', z'] base L w1) (hb : b + 3 < base) : E6 w b l1 [x, y, z, x', y', z'] base L (Go.Proofs.Ytdkejndagicgjaa.wr6 w1 (b + 3) x y z x' y' z') :=
  ⟨h.1.wr6 (by omega) x y z x' y' z', h.2.1.put6 x y z x' y' z', wr6_below h.2.2.1 (by omega) x y z x' y' z', fun t ht => (h.2.2.2 t ht).put6 (by omega) x y z x' y' z'⟩
end
/-- an answer: two numbers and an error -/
def RetNN (w : World) (x : Rw × Rw × Rw × Rw × Int) (e : Ending) (w' : World) : Prop := ∃ A1 c1 D1 d1 A2 c2 D2 d2 A3 c3 D3 d3 A4 c4 D4 d4,
  e = .returned (.tuple #[.agg #[.bool x.1.s, .slice A1 x.1.a.length c1, .slice D1 x.1.b.length d1, .bool x.2.1.s, .slice A2 x.2.1.a.length c2, .slice D2 x.2.1.b.length d2],
    .agg #[.bool x.2.2.1.s, .slice A3 x.2.2.1.a.length c3, .slice D3 x.2.2.1.b.length d3, .bool x.2.2.2.1.s, .slice A4 x.2.2.2.1.a.length c4, .slice D4 x.2.2.2.1.b.length d4], .int .i64 x.2.2.2.2]) ∧
  (OW w' w.heap.size A1 c1 x.1.a ∧ OW w' w.heap.size D1 d1 x.1.b ∧ OW w' w.heap.size A2 c2 x.2.1.a ∧ OW w' w.heap.size D2 d2 x.2.1.b) ∧
  (OW w' w.heap.size A3 c3 x.2.2.1.a ∧ OW w' w.heap.size D3 d3 x.2.2.1.b ∧ OW w' w.heap.size A4 c4 x.2.2.2.1.a ∧ OW w' w.heap.size D4 d4 x.2.2.2.1.b) ∧ Below w.heap.size w w'
def dm0 (k : Int) : Rw × Rw × Rw × Rw × Int := (rw0, rw0, rw0, rw0, k)
theorem retNN_nil {w w' : World} (k : Int) (hb : Below w.heap.size w w') : RetNN w (dm0 k) (.returned (.tuple #[.agg #[.bool false, .slice none 0 0, .slice none 0 0, .bool false, .slice none 0 0, .slice none 0 0], .agg #[.bool false, .slice none 0 0, .slice none 0 0, .bool false, .slice none 0 0, .slice none 0 0], .int .i64 k])) w' :=
  ⟨none, 0, none, 0, none, 0, none, 0, none, 0, none, 0, none, 0, none, 0, rfl, ⟨OW.nil _ _, OW.nil _ _, OW.nil _ _, OW.nil _ _⟩, ⟨OW.nil _ _, OW.nil _ _, OW.nil _ _, OW.nil _ _⟩, hb⟩
/-- both fitted -/
def dmG (f g : Rw × Rw × Int) : Rw × Rw × Rw × Rw × Int := if f.2.2 = 0 then (if g.2.2 = 0 then (f.1, f.2.1, g.1, g.2.1, 0) else dm0 g.2.2) else dm0 f.2.2


set_option maxRecDepth 100000 in
set_option maxHeartbeats 8000000 in
theorem edm_bad (V U : Value) (r i r' i' : Rw) (w : World) (hV : VN w w.heap.size V r i) (hU : VN w w.heap.size U r' i') (hb : ¬ chkN2 true r i r' i' = 0) :
    Calls Try.prog 20 #[V, U] w (RetNN w (dm0 (chkN2 true r i r' i'))) := by
  obtain ⟨s1, a1, b1⟩ := r
  obtain ⟨s2, a2, b2⟩ := i
  obtain ⟨t1, g1, h1⟩ := r'
  obtain ⟨t2, g2, h2⟩ := i'
  obtain ⟨A1, c1, D1, d1, A2, c2, D2, d2, rfl, p1, p2, p3, p4⟩ := hV
  obtain ⟨E1, e1, F1, f1, E2, e2, F2, f2, rfl, p5, p6, p7, p8⟩ := hU
  dsimp only at p1 p2 p3 p4 p5 p6 p7 p8 ⊢
  have k0 := D4.new w [.bool s1, .slice A1 a1.length c1, .slice D1 b1.length d1, .bool s2, .slice A2 a2.length c2, .slice D2 b2.length d2] [.bool t1, .slice E1 g1.length e1, .slice F1 h1.length f1, .bool t2, .slice E2 g2.length e2, .slice F2 h2.length f2] [.bool false, .slice none 0 0, .slice none 0 0, .bool false, .slice none 0 0, .slice none 0 0] [.bool false, .slice none 0 0, .slice none 0 0, .bool false, .slice none 0 0, .slice none 0 0] 26 26 26 26
  have C0 := k0.2.2.2.2
  have z3 : ((((w.alloc (.cells #[.bool s1, .slice A1 a1.length c1, .slice D1 b1.length d1, .bool s2, .slice A2 a2.length c2, .slice D2 b2.length d2] 26)).alloc (.cells #[.bool t1, .slice E1 g1.length e1, .slice F1 h1.length f1, .bool t2, .slice E2 g2.length e2, .slice F2 h2.length f2] 26)).alloc (.cells #[.bool false, .slice none 0 0, .slice none 0 0, .bool false, .slice none 0 0, .slice none 0 0] 26)).alloc (.cells #[.bool false, .slice none 0 0, .slice none 0 0, .bool false, .slice none 0 0, .slice none 0 0] 26)).heap.size = w.heap.size + 4 := by simp
  have Bs := bal ((((w.alloc (.cells #[.bool s1, .slice A1 a1.length c1, .slice D1 b1.length d1, .bool s2, .slice A2 a2.length c2, .slice D2 b2.length d2] 26)).alloc (.cells #[.bool t1, .slice E1 g1.length e1, .slice F1 h1.length f1, .bool t2, .slice E2 g2.length e2, .slice F2 h2.length f2] 26)).alloc (.cells #[.bool false, .slice none 0 0, .slice none 0 0, .bool false, .slice none 0 0, .slice none 0 0] 26)).alloc (.cells #[.bool false, .slice none 0 0, .slice none 0 0, .bool false, .slice none 0 0, .slice none 0 0] 26)) (.cells #[.bool s1, .slice A1 a1.length c1, .slice D1 b1.length d1, .bool s2, .slice A2 a2.length c2, .slice D2 b2.length d2, .bool t1, .slice E1 g1.length e1, .slice F1 h1.length f1, .bool t2, .slice E2 g2.length e2, .slice F2 h2.length f2] 26)
  have sg := SB.new ((((w.alloc (.cells #[.bool s1, .slice A1 a1.length c1, .slice D1 b1.length d1, .bool s2, .slice A2 a2.length c2, .slice D2 b2.length d2] 26)).alloc (.cells #[.bool t1, .slice E1 g1.length e1, .slice F1 h1.length f1, .bool t2, .slice E2 g2.length e2, .slice F2 h2.length f2] 26)).alloc (.cells #[.bool false, .slice none 0 0, .slice none 0 0, .bool false, .slice none 0 0, .slice none 0 0] 26)).alloc (.cells #[.bool false, .slice none 0 0, .slice none 0 0, .bool false, .slice none 0 0, .slice none 0 0] 26)) [.bool s1, .slice A1 a1.length c1, .slice D1 b1.length d1, .bool s2, .slice A2 a2.length c2, .slice D2 b2.length d2, .bool t1, .slice E1 g1.length e1, .slice F1 h1.length f1, .bool t2, .slice E2 g2.length e2, .slice F2 h2.length f2] 26
  rw [z3] at sg
  have C1 := bt C0 Bs
  have k1 := k0.nx Bs
  have hck := check2x_any true (w.heap.size + 4) _ _ _ _ _ _ _ _ _ _ _ _ _ _ _ _ _ _ _ _ _ _ _ _ _ _ _ _ _ sg (st p1 C1) (st p2 C1) (st p3 C1) (st p4 C1) (st p5 C1) (st p6 C1) (st p7 C1) (st p8 C1)
  generalize chkN2 true ⟨s1, a1, b1⟩ ⟨s2, a2, b2⟩ ⟨t1, g1, h1⟩ ⟨t2, g2, h2⟩ = k at *
  have hb2 : (k == 0) = false := beq_eq_false_iff_ne.2 hb
  clear sg k0 p1 p2 p3 p4 p5 p6 p7 p8
  go_enter Try.func20, Try.ntmps20
  go_wp2_with fail
  refine hck.mono ?_; rintro e w3 ⟨rfl, B3⟩
  clear hck
  have k3 := k1.nx B3
  have hR1 := k3.2.2.1
  have ky := k3.putq (.bool false) (.slice none 0 0) (.slice none 0 0) (.bool false) (.slice none 0 0) (.slice none 0 0)
  have sq := hR1.put6 (.bool false) (.slice none 0 0) (.slice none 0 0) (.bool false) (.slice none 0 0) (.slice none 0 0)
  obtain ⟨W1, hW1⟩ : ∃ W1, W1 = wr6 w3 (w.heap.size + 2) (.bool false) (.slice none 0 0) (.slice none 0 0) (.bool false) (.slice none 0 0) (.slice none 0 0) := ⟨_, rfl⟩
  rw [← hW1] at ky sq
  have hR2 := ky.2.2.2.1
  go_wp2_with ((refine wp_st6 rfl (.tmp 4) (.tmp 17) rfl _ rfl _ _ _ _ _ _ rfl hR1 rfl rfl rfl rfl rfl rfl ?_; rw [← hW1]; clear hW1; refine wp_st6 rfl (.tmp 5) (.tmp 18) rfl _ rfl _ _ _ _ _ _ rfl hR2 rfl rfl rfl rfl rfl rfl ?_))
  have kz := ky.putr (.bool false) (.slice none 0 0) (.slice none 0 0) (.bool false) (.slice none 0 0) (.slice none 0 0)
  have sq := sq.wr6 (r := w.heap.size + 3) (by omega) (.bool false) (.slice none 0 0) (.slice none 0 0) (.bool false) (.slice none 0 0) (.slice none 0 0)
  have sr := hR2.put6 (.bool false) (.slice none 0 0) (.slice none 0 0) (.bool false) (.slice none 0 0) (.slice none 0 0)
  have q0' := sq.cell 0
  have q1' := sq.cell 1
  have q2' := sq.cell 2
  have q3' := sq.cell 3
  have q4' := sq.cell 4
  have q5' := sq.cell 5
  have r0' := sr.cell 0
  have r1' := sr.cell 1
  have r2' := sr.cell 2
  have r3' := sr.cell 3
  have r4' := sr.cell 4
  have r5' := sr.cell 5
  refine bodyPost_ret (v := .tuple #[.agg #[.bool false, .slice none 0 0, .slice none 0 0, .bool false, .slice none 0 0, .slice none 0 0], .agg #[.bool false, .slice none 0 0, .slice none 0 0, .bool false, .slice none 0 0, .slice none 0 0], .int .i64 k]) (by simp [results, q0', q1', q2', q3', q4', q5', r0', r1', r2', r3', r4', r5', go_sem]) rfl ?_
  exact retNN_nil k kz.2.2.2.2


set_option maxRecDepth 100000 in
set_option maxHeartbeats 8000000 in
theorem edm_zero (V U : Value) (x y u v : Rat) (w : World) (hV : RN w w.heap.size V x y) (hU : RN w w.heap.size U u v) (_bx : qw x ≤ 512) (_bu : qw u ≤ 512) (hz : chkN2 true (rwq x) (rwq y) (rwq u) (rwq v) = 0) (h0 : u = 0 ∧ v = 0) :
    Calls Try.prog 20 #[V, U] w (RetNN w (dm0 3)) := by
  obtain ⟨A1, c1, D1, d1, A2, c2, D2, d2, rfl, p1, p2, p3, p4⟩ := hV
  obtain ⟨E1, e1, F1, f1, E2, e2, F2, f2, rfl, p5, p6, p7, p8⟩ := hU
  simp only [rwq] at p1 p2 p3 p4 p5 p6 p7 p8 hz ⊢
  have k0 := D4.new w [.bool (qn x), .slice A1 (digs (qt x)).length c1, .slice D1 (digs (qd x)).length d1, .bool (qn y), .slice A2 (digs (qt y)).length c2, .slice D2 (digs (qd y)).length d2] [.bool (qn u), .slice E1 (digs (qt u)).length e1, .slice F1 (digs (qd u)).length f1, .bool (qn v), .slice E2 (digs (qt v)).length e2, .slice F2 (digs (qd v)).length f2] [.bool false, .slice none 0 0, .slice none 0 0, .bool false, .slice none 0 0, .slice none 0 0] [.bool false, .slice none 0 0, .slice none 0 0, .bool false, .slice none 0 0, .slice none 0 0] 26 26 26 26
  have C0 := k0.2.2.2.2
  have z3 : ((((w.alloc (.cells #[.bool (qn x), .slice A1 (digs (qt x)).length c1, .slice D1 (digs (qd x)).length d1, .bool (qn y), .slice A2 (digs (qt y)).length c2, .slice D2 (digs (qd y)).length d2] 26)).alloc (.cells #[.bool (qn u), .slice E1 (digs (qt u)).length e1, .slice F1 (digs (qd u)).length f1, .bool (qn v), .slice E2 (digs (qt v)).length e2, .slice F2 (digs (qd v)).length f2] 26)).alloc (.cells #[.bool false, .slice none 0 0, .slice none 0 0, .bool false, .slice none 0 0, .slice none 0 0] 26)).alloc (.cells #[.bool false, .slice none 0 0, .slice none 0 0, .bool false, .slice none 0 0, .slice none 0 0] 26)).heap.size = w.heap.size + 4 := by simp
  have Bs := bal ((((w.alloc (.cells #[.bool (qn x), .slice A1 (digs (qt x)).length c1, .slice D1 (digs (qd x)).length d1, .bool (qn y), .slice A2 (digs (qt y)).length c2, .slice D2 (digs (qd y)).length d2] 26)).alloc (.cells #[.bool (qn u), .slice E1 (digs (qt u)).length e1, .slice F1 (digs (qd u)).length f1, .bool (qn v), .slice E2 (digs (qt v)).length e2, .slice F2 (digs (qd v)).length f2] 26)).alloc (.cells #[.bool false, .slice none 0 0, .slice none 0 0, .bool false, .slice none 0 0, .slice none 0 0] 26)).alloc (.cells #[.bool false, .slice none 0 0, .slice none 0 0, .bool false, .slice none 0 0, .slice none 0 0] 26)) (.cells #[.bool (qn x), .slice A1 (digs (qt x)).length c1, .slice D1 (digs (qd x)).length d1, .bool (qn y), .slice A2 (digs (qt y)).length c2, .slice D2 (digs (qd y)).length d2, .bool (qn u), .slice E1 (digs (qt u)).length e1, .slice F1 (digs (qd u)).length f1, .bool (qn v), .slice E2 (digs (qt v)).length e2, .slice F2 (digs (qd v)).length f2] 26)
  have sg := SB.new ((((w.alloc (.cells #[.bool (qn x), .slice A1 (digs (qt x)).length c1, .slice D1 (digs (qd x)).length d1, .bool (qn y), .slice A2 (digs (qt y)).length c2, .slice D2 (digs (qd y)).length d2] 26)).alloc (.cells #[.bool (qn u), .slice E1 (digs (qt u)).length e1, .slice F1 (digs (qd u)).length f1, .bool (qn v), .slice E2 (digs (qt v)).length e2, .slice F2 (digs (qd v)).length f2] 26)).alloc (.cells #[.bool false, .slice none 0 0, .slice none 0 0, .bool false, .slice none 0 0, .slice none 0 0] 26)).alloc (.cells #[.bool false, .slice none 0 0, .slice none 0 0, .bool false, .slice none 0 0, .slice none 0 0] 26)) [.bool (qn x), .slice A1 (digs (qt x)).length c1, .slice D1 (digs (qd x)).length d1, .bool (qn y), .slice A2 (digs (qt y)).length c2, .slice D2 (digs (qd y)).length d2, .bool (qn u), .slice E1 (digs (qt u)).length e1, .slice F1 (digs (qd u)).length f1, .bool (qn v), .slice E2 (digs (qt v)).length e2, .slice F2 (digs (qd v)).length f2] 26
  rw [z3] at sg
  have C1 := bt C0 Bs
  have k1 := k0.nx Bs
  have hck := check2x_any true (w.heap.size + 4) _ _ _ _ _ _ _ _ _ _ _ _ _ _ _ _ _ _ _ _ _ _ _ _ _ _ _ _ _ sg (st p1 C1) (st p2 C1) (st p3 C1) (st p4 C1) (st p5 C1) (st p6 C1) (st p7 C1) (st p8 C1)
  rw [hz] at hck
  have hZ := fun w' h => zero_any (.agg #[.bool (qn u), .slice E1 (digs (qt u)).length e1, .slice F1 (digs (qd u)).length f1, .bool (qn v), .slice E2 (digs (qt v)).length e2, .slice F2 (digs (qd v)).length f2]) (rwq u) (rwq v) w' h
  rw [zeroB_q] at hZ
  clear hz sg k0
  rw [decide_eq_true h0] at hZ
  clear h0
  go_enter Try.func20, Try.ntmps20
  go_wp2_with fail
  refine hck.mono ?_; rintro e w3 ⟨rfl, B3⟩
  clear hck
  have k3 := k1.nx B3
  have C3 := bt C1 B3
  have j0 := k3.2.1.cell 0
  have j1 := k3.2.1.cell 1
  have j2 := k3.2.1.cell 2
  have j3 := k3.2.1.cell 3
  have j4 := k3.2.1.cell 4
  have j5 := k3.2.1.cell 5
  go_wp2_with fail
  refine (hZ _ ⟨E1, e1, F1, f1, E2, e2, F2, f2, rfl, st p5 C3, st p6 C3, st p7 C3, st p8 C3⟩).mono ?_; rintro e w4 ⟨rfl, B4⟩
  clear hZ j0 j1 j2 j3 j4 j5
  have k4 := k3.nx B4
  have C4 := bt C3 B4
  have hR1 := k4.2.2.1
  have ky := k4.putq (.bool false) (.slice none 0 0) (.slice none 0 0) (.bool false) (.slice none 0 0) (.slice none 0 0)
  have sq := hR1.put6 (.bool false) (.slice none 0 0) (.slice none 0 0) (.bool false) (.slice none 0 0) (.slice none 0 0)
  obtain ⟨W1, hW1⟩ : ∃ W1, W1 = wr6 w4 (w.heap.size + 2) (.bool false) (.slice none 0 0) (.slice none 0 0) (.bool false) (.slice none 0 0) (.slice none 0 0) := ⟨_, rfl⟩
  rw [← hW1] at ky sq
  have hR2 := ky.2.2.2.1
  go_wp2_with ((refine wp_st6 rfl (.tmp 4) (.tmp 22) rfl _ rfl _ _ _ _ _ _ rfl hR1 rfl rfl rfl rfl rfl rfl ?_; rw [← hW1]; clear hW1; refine wp_st6 rfl (.tmp 5) (.tmp 23) rfl _ rfl _ _ _ _ _ _ rfl hR2 rfl rfl rfl rfl rfl rfl ?_))
  have kz := ky.putr (.bool false) (.slice none 0 0) (.slice none 0 0) (.bool false) (.slice none 0 0) (.slice none 0 0)
  have sq := sq.wr6 (r := w.heap.size + 3) (by omega) (.bool false) (.slice none 0 0) (.slice none 0 0) (.bool false) (.slice none 0 0) (.slice none 0 0)
  have sr := hR2.put6 (.bool false) (.slice none 0 0) (.slice none 0 0) (.bool false) (.slice none 0 0) (.slice none 0 0)
  have q0' := sq.cell 0
  have q1' := sq.cell 1
  have q2' := sq.cell 2
  have q3' := sq.cell 3
  have q4' := sq.cell 4
  have q5' := sq.cell 5
  have r0' := sr.cell 0
  have r1' := sr.cell 1
  have r2' := sr.cell 2
  have r3' := sr.cell 3
  have r4' := sr.cell 4
  have r5' := sr.cell 5
  refine bodyPost_ret (v := .tuple #[.agg #[.bool false, .slice none 0 0, .slice none 0 0, .bool false, .slice none 0 0, .slice none 0 0], .agg #[.bool false, .slice none 0 0, .slice none 0 0, .bool false, .slice none 0 0, .slice none 0 0], .int .i64 3]) (by simp [results, q0', q1', q2', q3', q4', q5', r0', r1', r2', r3', r4', r5', go_sem]) rfl ?_
  exact retNN_nil 3 kz.2.2.2.2

end Go.Proofs.Ytdkejndagicgjaa
