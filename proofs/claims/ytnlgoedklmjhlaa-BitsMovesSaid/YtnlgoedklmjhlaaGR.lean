/- Merged texts: ExZ, ExH, ExM, ExN, ExQ. -/
import Derived.Test.YtnlgoedklmjhlaaGH
import Derived.Test.YtnlgoedklmjhlaaHP
import Derived.Test.YtnlgoedklmjhlaaGF
namespace Go.Proofs.Ytnlgoedklmjhlaa
open Go.RowKit

/-- the greatest whole number that is not above a fraction -/
def flr (x : Rat) : Int := sgn (qn x) (if qn x = true ∧ qt x % qd x ≠ 0 then qt x / qd x + 1 else qt x / qd x)


set_option maxRecDepth 100000 in
set_option maxHeartbeats 4000000 in
theorem floor_down (A1 D1 : Option Addr) (c1 d1 : Nat) (a b : List Nat) (q : Rat) (N R : Nat) (w : World) (h1 : RW w w.heap.size A1 c1 a) (h2 : RW w w.heap.size D1 d1 b)
    (hO : ∀ w', RW w' w'.heap.size A1 c1 a → RW w' w'.heap.size D1 d1 b → Calls Try.prog 87 #[.slice A1 a.length c1, .slice D1 b.length d1] w' (RetQ w' N R)) (hN : N < Wp 14000) (hq : ((sgn true N : Int) : Rat) = q) (h0 : R = 0) :
    Calls Try.prog 68 #[.agg #[.bool true, .slice A1 a.length c1, .slice D1 b.length d1]] w (RetR w q) := by
  have k0 := S2.new w [.bool true, .slice A1 a.length c1, .slice D1 b.length d1] [.bool false, .slice none 0 0, .slice none 0 0] 24 24 3
  have i0 := k0.1.cell 0
  have i1 := k0.1.cell 1
  have i2 := k0.1.cell 2
  have C0 := k0.2.2
  have lN := (digs_len_le (n := N)).2 hN
  have hW := fun A c (w' : World) h => whole_any true A c _ (digs N) w' rfl h (Nrm_digs _) (by omega)
  simp only [val_digs, hq] at hW
  subst h0
  have l0 : (digs 0).length = 0 := by rw [digs_zero]; rfl
  go_enter Try.func68, Try.ntmps68
  go_wp2_with fail
  refine (hO _ (st h1 C0) (st h2 C0)).mono ?_; rintro e w3 ⟨A3, c3, D3, d3, rfl, O3, P3, B3⟩
  have k3 := k0.nx B3
  have j0 := k3.1.cell 0
  rw [l0]
  have O6 := O3
  have k6 := k3
  go_wp2_with fail
  refine (hW _ _ _ O6.rw).mono ?_; rintro e w7 ⟨A7, c7, D7, d7, rfl, O7, P7, B7⟩
  have k7 := k6.nx B7
  have hRC := k7.2.1
  have m0 := hRC.cell 0
  have m1 := hRC.cell 1
  have m2 := hRC.cell 2
  have f0 := hRC.frozen 0
  have f1 := hRC.frozen 1
  have f2 := hRC.frozen 2
  have s6 := hRC.put3 (.bool (qn q)) (.slice A7 (digs (qt q)).length c7) (.slice D7 (digs (qd q)).length d7)
  have B6 := put3_below (b := w.heap.size + 1) k7.2.2 (by omega) (.bool (qn q)) (.slice A7 (digs (qt q)).length c7) (.slice D7 (digs (qd q)).length d7)
  have hb := k6.2.1.2
  have Oa := O7.put3 (b := w.heap.size + 1) hb (.bool (qn q)) (.slice A7 (digs (qt q)).length c7) (.slice D7 (digs (qd q)).length d7)
  have Ob := P7.put3 (b := w.heap.size + 1) hb (.bool (qn q)) (.slice A7 (digs (qt q)).length c7) (.slice D7 (digs (qd q)).length d7)
  have r0 := s6.cell 0
  have r1 := s6.cell 1
  have r2 := s6.cell 2
  unfold wr3 at s6 B6 Oa Ob r0 r1 r2
  go_wp2_with fail
  refine bodyPost_ret (v := (.agg #[.bool (qn q), .slice A7 (digs (qt q)).length c7, .slice D7 (digs (qd q)).length d7])) (by simp [results, r0, r1, r2, go_sem]) rfl ?_
  have hle := Nat.le_of_lt (Nat.lt_of_succ_lt hb)
  exact ⟨A7, c7, D7, d7, rfl, Oa.base_le hle, Ob.base_le hle, B6⟩

set_option maxRecDepth 100000 in
set_option maxHeartbeats 4000000 in
theorem floor_up (A1 D1 : Option Addr) (c1 d1 : Nat) (a b : List Nat) (q : Rat) (N R : Nat) (w : World) (h1 : RW w w.heap.size A1 c1 a) (h2 : RW w w.heap.size D1 d1 b)
    (hO : ∀ w', RW w' w'.heap.size A1 c1 a → RW w' w'.heap.size D1 d1 b → Calls Try.prog 87 #[.slice A1 a.length c1, .slice D1 b.length d1] w' (RetQ w' N R)) (hN : N < Wp 14000) (hq : ((sgn false N : Int) : Rat) = q) :
    Calls Try.prog 68 #[.agg #[.bool false, .slice A1 a.length c1, .slice D1 b.length d1]] w (RetR w q) := by
  have k0 := S2.new w [.bool false, .slice A1 a.length c1, .slice D1 b.length d1] [.bool false, .slice none 0 0, .slice none 0 0] 24 24 3
  have i0 := k0.1.cell 0
  have i1 := k0.1.cell 1
  have i2 := k0.1.cell 2
  have C0 := k0.2.2
  have lN := (digs_len_le (n := N)).2 hN
  have hW := fun A c (w' : World) h => whole_any false A c _ (digs N) w' rfl h (Nrm_digs _) (by omega)
  simp only [val_digs, hq] at hW
  go_enter Try.func68, Try.ntmps68
  go_wp2_with fail
  refine (hO _ (st h1 C0) (st h2 C0)).mono ?_; rintro e w3 ⟨A3, c3, D3, d3, rfl, O3, P3, B3⟩
  have k3 := k0.nx B3
  have j0 := k3.1.cell 0
  have O6 := O3
  have k6 := k3
  go_wp2_with fail
  refine (hW _ _ _ O6.rw).mono ?_; rintro e w7 ⟨A7, c7, D7, d7, rfl, O7, P7, B7⟩
  have k7 := k6.nx B7
  have hRC := k7.2.1
  have m0 := hRC.cell 0
  have m1 := hRC.cell 1
  have m2 := hRC.cell 2
  have f0 := hRC.frozen 0
  have f1 := hRC.frozen 1
  have f2 := hRC.frozen 2
  have s6 := hRC.put3 (.bool (qn q)) (.slice A7 (digs (qt q)).length c7) (.slice D7 (digs (qd q)).length d7)
  have B6 := put3_below (b := w.heap.size + 1) k7.2.2 (by omega) (.bool (qn q)) (.slice A7 (digs (qt q)).length c7) (.slice D7 (digs (qd q)).length d7)
  have hb := k6.2.1.2
  have Oa := O7.put3 (b := w.heap.size + 1) hb (.bool (qn q)) (.slice A7 (digs (qt q)).length c7) (.slice D7 (digs (qd q)).length d7)
  have Ob := P7.put3 (b := w.heap.size + 1) hb (.bool (qn q)) (.slice A7 (digs (qt q)).length c7) (.slice D7 (digs (qd q)).length d7)
  have r0 := s6.cell 0
  have r1 := s6.cell 1
  have r2 := s6.cell 2
  unfold wr3 at s6 B6 Oa Ob r0 r1 r2
  go_wp2_with fail
  refine bodyPost_ret (v := (.agg #[.bool (qn q), .slice A7 (digs (qt q)).length c7, .slice D7 (digs (qd q)).length d7])) (by simp [results, r0, r1, r2, go_sem]) rfl ?_
  have hle := Nat.le_of_lt (Nat.lt_of_succ_lt hb)
  exact ⟨A7, c7, D7, d7, rfl, Oa.base_le hle, Ob.base_le hle, B6⟩

set_option maxRecDepth 100000 in
set_option maxHeartbeats 4000000 in
theorem floor_less (A1 D1 : Option Addr) (c1 d1 : Nat) (a b : List Nat) (q : Rat) (N R : Nat) (w : World) (h1 : RW w w.heap.size A1 c1 a) (h2 : RW w w.heap.size D1 d1 b)
    (hO : ∀ w', RW w' w'.heap.size A1 c1 a → RW w' w'.heap.size D1 d1 b → Calls Try.prog 87 #[.slice A1 a.length c1, .slice D1 b.length d1] w' (RetQ w' N R)) (hN : N < Wp 14000) (hq : ((sgn true (N + 1) : Int) : Rat) = q) (h0 : R ≠ 0) :
    Calls Try.prog 68 #[.agg #[.bool true, .slice A1 a.length c1, .slice D1 b.length d1]] w (RetR w q) := by
  have k0 := S2.new w [.bool true, .slice A1 a.length c1, .slice D1 b.length d1] [.bool false, .slice none 0 0, .slice none 0 0] 24 24 3
  have i0 := k0.1.cell 0
  have i1 := k0.1.cell 1
  have i2 := k0.1.cell 2
  have C0 := k0.2.2
  have lN := (digs_len_le (n := N)).2 hN
  have hW := fun A c (w' : World) h => whole_any true A c _ (digs (N + 1)) w' rfl h (Nrm_digs _) (Nat.le_trans (digs_add (k := 14000) (by omega) (by rw [digs_one1]; simp)) (by omega))
  simp only [val_digs, hq] at hW
  have l0 : (digs R).length ≠ 0 := fun h => h0 (digs_len0.1 h)
  generalize hlr : (digs R).length = lr at *
  have l1 : (0 : Int) < (lr : Int) := by omega
  have l2 : decide ((0 : Int) < (lr : Int)) = true := by simp; omega
  go_enter Try.func68, Try.ntmps68
  go_wp2_with fail
  refine (hO _ (st h1 C0) (st h2 C0)).mono ?_; rintro e w3 ⟨A3, c3, D3, d3, rfl, O3, P3, B3⟩
  have k3 := k0.nx B3
  have j0 := k3.1.cell 0
  rw [hlr]
  have L3 := bal w3 (.cells #[.int .u32 (1 : Nat)] 46)
  have r1 := RW.one w3 46 (show 1 < 4294967296 by omega)
  have hP := plus_any A3 (some ⟨w3.heap.size, 0, none⟩) c3 1 (digs N).length 1 (digs N) [1] _ rfl rfl (st O3.rw L3) (r1.more (by simp)) (by omega) (by simp)
  rw [val_digs, val_one] at hP
  go_wp2_with fail
  refine hP.mono ?_; rintro e w5 ⟨A6, c6, rfl, O6, B5⟩
  have k6 := (k3.nx L3).nx B5
  have j0 := k6.1.cell 0
  go_wp2_with fail
  refine (hW _ _ _ O6.rw).mono ?_; rintro e w7 ⟨A7, c7, D7, d7, rfl, O7, P7, B7⟩
  have k7 := k6.nx B7
  have hRC := k7.2.1
  have m0 := hRC.cell 0
  have m1 := hRC.cell 1
  have m2 := hRC.cell 2
  have f0 := hRC.frozen 0
  have f1 := hRC.frozen 1
  have f2 := hRC.frozen 2
  have s6 := hRC.put3 (.bool (qn q)) (.slice A7 (digs (qt q)).length c7) (.slice D7 (digs (qd q)).length d7)
  have B6 := put3_below (b := w.heap.size + 1) k7.2.2 (by omega) (.bool (qn q)) (.slice A7 (digs (qt q)).length c7) (.slice D7 (digs (qd q)).length d7)
  have hb := k6.2.1.2
  have Oa := O7.put3 (b := w.heap.size + 1) hb (.bool (qn q)) (.slice A7 (digs (qt q)).length c7) (.slice D7 (digs (qd q)).length d7)
  have Ob := P7.put3 (b := w.heap.size + 1) hb (.bool (qn q)) (.slice A7 (digs (qt q)).length c7) (.slice D7 (digs (qd q)).length d7)
  have r0 := s6.cell 0
  have r1 := s6.cell 1
  have r2 := s6.cell 2
  unfold wr3 at s6 B6 Oa Ob r0 r1 r2
  go_wp2_with fail
  refine bodyPost_ret (v := (.agg #[.bool (qn q), .slice A7 (digs (qt q)).length c7, .slice D7 (digs (qd q)).length d7])) (by simp [results, r0, r1, r2, go_sem]) rfl ?_
  have hle := Nat.le_of_lt (Nat.lt_of_succ_lt hb)
  exact ⟨A7, c7, D7, d7, rfl, Oa.base_le hle, Ob.base_le hle, B6⟩

theorem efloor_any (V : Value) (x : Rat) (w : World) (hx : RQ w w.heap.size V x) (hb : qw x ≤ 14000) :
    Calls Try.prog 68 #[V] w (RetR w ((flr x : Int) : Rat)) := by
  obtain ⟨A, c, D, d, rfl, r1, r2⟩ := hx
  have t1 := qw_t x
  have hO : ∀ w', RW w' w'.heap.size A c (digs (qt x)) → RW w' w'.heap.size D d (digs (qd x)) → Calls Try.prog 87 #[.slice A (digs (qt x)).length c, .slice D (digs (qd x)).length d] w' (RetQ w' (qt x / qd x) (qt x % qd x)) := fun w' h1 h2 => by
    have h := over_any A D c d _ _ _ _ w' rfl rfl h1 h2 (Nrm_digs _) (Nrm_digs _) (by rw [val_digs]; exact qd_pos x) (by omega)
    rw [val_digs, val_digs] at h
    exact h
  have hN : qt x / qd x < Wp 14000 := Nat.lt_of_le_of_lt (Nat.div_le_self _ _) (digs_len_le.1 (Nat.le_trans t1 hb))
  unfold flr
  cases hs : qn x with
  | false =>
    rw [if_neg (by simp)]
    exact floor_up A D c d _ _ _ _ _ w r1 r2 hO hN rfl
  | true =>
    by_cases h0 : qt x % qd x = 0
    · rw [if_neg (by simp [h0])]
      exact floor_down A D c d _ _ _ _ _ w r1 r2 hO hN rfl h0
    · rw [if_pos ⟨rfl, h0⟩]
      exact floor_less A D c d _ _ _ _ _ w r1 r2 hO hN rfl h0

end Go.Proofs.Ytnlgoedklmjhlaa
namespace Go.Proofs.Ytnlgoedklmjhlaa
open Go.RowKit

def qfloorA (r i : Rw) : Rw × Rw × Int := if chkN1 true r i = 0 then fitQ ((flr (qv r) : Int) : Rat) (qv i) else (rw0, rw0, chkN1 true r i)
theorem chkN1_zero {r i : Rw} (h : chkN1 true r i = 0) : nB r i = true ∧ i.a = [] := by
  unfold chkN1 at h
  split at h
  · next hn =>
    split at h
    · cases h
    · next hq => exact ⟨hn, List.eq_nil_of_length_eq_zero (by have := not_and.1 hq rfl; omega)⟩
  · cases h


end Go.Proofs.Ytnlgoedklmjhlaa
namespace Go.Proofs.Ytnlgoedklmjhlaa
open Go.RowKit

/-- a fraction's size -/
def ab (u : Rat) : Rat := if qn u = true then -u else u
theorem ab_t (u : Rat) : qt (ab u) = qt u := by unfold ab; split; exact q_neg_t u; rfl
theorem ab_d (u : Rat) : qd (ab u) = qd u := by unfold ab; split; exact q_neg_d u; rfl
theorem ab_n (u : Rat) : qn (ab u) = false := by
  unfold ab
  split
  · next h => rw [q_neg_n, h]; rfl
  · next h => simpa using h
theorem qw_ab (u : Rat) : qw (ab u) = qw u := by unfold qw; rw [ab_t, ab_d]
theorem qw_intk (i : Int) {k : Nat} (h : (digs i.natAbs).length ≤ k) (hk : 1 ≤ k) : qw (i : Rat) ≤ k := by
  unfold qw
  rw [qt_int, qd_int, digs_one1]
  exact Nat.max_le.2 ⟨h, hk⟩
theorem qw_flr (x : Rat) : qw ((flr x : Int) : Rat) ≤ qw x + 1 := by
  have h1 := qw_t x
  have h2 : (digs (qt x / qd x)).length ≤ qw x := Nat.le_trans (digs_mono (Nat.div_le_self _ _)) h1
  refine qw_intk _ ?_ (by omega)
  unfold flr
  generalize qt x / qd x = k at *
  split
  · have h3 : (sgn (qn x) (k + 1)).natAbs = k + 1 := by unfold sgn; split <;> omega
    rw [h3]
    by_cases h0 : qw x = 0
    · rw [h0] at h2
      have h4 := digs_len0.1 (Nat.le_zero.1 h2)
      rw [h4, h0, Nat.zero_add, digs_one1]
      simp
    · exact digs_add h2 (by rw [digs_one1]; simp; omega)
  · have h3 : (sgn (qn x) k).natAbs = k := by unfold sgn; split <;> omega
    rw [h3]
    omega
/-- what is kept: two numbers, two results -/
def D4 (w : World) (b : Nat) (l1 l2 : List Value) (w' : World) : Prop := SB w' b l1 ∧ SB w' (b + 1) l2 ∧ RC w' (b + 2) 6 ∧ RC w' (b + 3) 6 ∧ Below b w w'
section
variable {w w1 w2 wc : World} {b g g2 n : Nat} {l1 l2 l3 : List Value}
theorem D4.new (w : World) (l1 l2 l3 l4 : List Value) (t1 t2 t3 t4 : TypeId) (h3 : 6 = l3.length := by rfl) (h4 : 6 = l4.length := by rfl) :
    D4 w w.heap.size l1 l2 ((((w.alloc (.cells l1.toArray t1)).alloc (.cells l2.toArray t2)).alloc (.cells l3.toArray t3)).alloc (.cells l4.toArray t4)) := by
  have h := S3.new w l1 l2 l3 t1 t2 t3 6 h3
  have s4 := SB.new (((w.alloc (.cells l1.toArray t1)).alloc (.cells l2.toArray t2)).alloc (.cells l3.toArray t3)) l4 t4
  rw [show (((w.alloc (.cells l1.toArray t1)).alloc (.cells l2.toArray t2)).alloc (.cells l3.toArray t3)).heap.size = w.heap.size + 3 by simp] at s4
  have B := bal (((w.alloc (.cells l1.toArray t1)).alloc (.cells l2.toArray t2)).alloc (.cells l3.toArray t3)) (.cells l4.toArray t4)
  have h' := h.nx B
  exact ⟨h'.1, h'.2.1, h'.2.2.1, s4.rc h4, h'.2.2.2⟩
theorem D4.nx (h : D4 w b l1 l2 w1) (hb : Below w1.heap.size w1 w2) : D4 w b l1 l2 w2 :=
  ⟨h.1.nx hb, h.2.1.nx hb, h.2.2.1.nx hb, h.2.2.2.1.nx hb, h.2.2.2.2.trans (hb.mono (by have := h.1.2; omega))⟩
theorem D4.wr3 (h : D4 w b l1 l2 w1) (hg : b + 3 < g) (x y z : Value) : D4 w b l1 l2 (Go.Proofs.Ytnlgoedklmjhlaa.wr3 w1 g x y z) :=
  ⟨h.1.wr3 (by omega) x y z, h.2.1.wr3 (by omega) x y z, (h.2.2.1.sb.wr3 (by omega) x y z).rc (by simp), (h.2.2.2.1.sb.wr3 (by omega) x y z).rc (by simp), wr3_below h.2.2.2.2 (by omega) x y z⟩
theorem D4.putq (h : D4 w b l1 l2 w1) (x y z x' y' z' : Value) : D4 w b l1 l2 (Go.Proofs.Ytnlgoedklmjhlaa.wr6 w1 (b + 2) x y z x' y' z') :=
  ⟨h.1.wr6 (by omega) x y z x' y' z', h.2.1.wr6 (by omega) x y z x' y' z', (h.2.2.1.put6 x y z x' y' z').rc, (h.2.2.2.1.sb.wr6 (by omega) x y z x' y' z').rc (by simp), wr6_below h.2.2.2.2 (by omega) x y z x' y' z'⟩
theorem D4.putr (h : D4 w b l1 l2 w1) (x y z x' y' z' : Value) : D4 w b l1 l2 (Go.Proofs.Ytnlgoedklmjhlaa.wr6 w1 (b + 3) x y z x' y' z') :=
  ⟨h.1.wr6 (by omega) x y z x' y' z', h.2.1.wr6 (by omega) x y z x' y' z', (h.2.2.1.sb.wr6 (by omega) x y z x' y' z').rc (by simp), (h.2.2.2.1.put6 x y z x' y' z').rc, wr6_below h.2.2.2.2 (by omega) x y z x' y' z'⟩
theorem D4.re {o o' : Obj} (h : D4 w b l1 l2 (w1.alloc o)) (hg : b + 3 < w1.heap.size) : D4 w b l1 l2 (w1.alloc o') := by
  refine ⟨sbre (by omega) h.1, sbre (by omega) h.2.1, (sbre (by omega) h.2.2.1.sb).rc (by simp), (sbre hg h.2.2.2.1.sb).rc (by simp), ?_⟩
  have h3 := h.2.2.2.2
  have e : ∀ (q : Obj) (k : Nat), k < w1.heap.size → (w1.alloc q).heap[k]? = w1.heap[k]? := fun q k hk => (bal w1 q).block k hk
  exact ⟨h3.os, h3.tape, h3.output, by have := h3.size; simpa using this, fun k hk => by
    rw [e o' k (by omega), ← e o k (by omega)]; exact h3.block k hk⟩
/-- besides, a fraction in a block of its own -/
def D5 (w wc : World) (b : Nat) (l1 l2 : List Value) (g : Nat) (l3 : List Value) (w' : World) : Prop := D4 w b l1 l2 w' ∧ SB w' g l3 ∧ Below wc.heap.size wc w'
theorem D5.nx (h : D5 w wc b l1 l2 g l3 w1) (hb : Below w1.heap.size w1 w2) : D5 w wc b l1 l2 g l3 w2 := ⟨h.1.nx hb, h.2.1.nx hb, bt h.2.2 hb⟩
theorem D5.dr (h : D5 w wc b l1 l2 g l3 w1) : D5 w wc b l1 l2 g l3 w1.drew := h.nx (Below.drew (Below.refl _ _))
theorem D5.wr3 (h : D5 w wc b l1 l2 g l3 w1) (hg : b + 3 < g2 ∧ g < g2 ∧ wc.heap.size ≤ g2) (x y z : Value) : D5 w wc b l1 l2 g l3 (Go.Proofs.Ytnlgoedklmjhlaa.wr3 w1 g2 x y z) :=
  ⟨h.1.wr3 hg.1 x y z, h.2.1.wr3 (by omega) x y z, wr3_below h.2.2 hg.2.2 x y z⟩
theorem D5.re {o o' : Obj} (h : D5 w wc b l1 l2 g l3 (w1.alloc o)) (hg : b + 3 < w1.heap.size ∧ g < w1.heap.size ∧ wc.heap.size ≤ w1.heap.size) : D5 w wc b l1 l2 g l3 (w1.alloc o') := by
  refine ⟨h.1.re hg.1, sbre hg.2.1 h.2.1, ?_⟩
  have h3 := h.2.2
  have e : ∀ (q : Obj) (k : Nat), k < w1.heap.size → (w1.alloc q).heap[k]? = w1.heap[k]? := fun q k hk => (bal w1 q).block k hk
  exact ⟨h3.os, h3.tape, h3.output, by have := h3.size; simpa using this, fun k hk => by
    rw [e o' k (by omega), ← e o k (by omega)]; exact h3.block k hk⟩
theorem gtd {l : List Value} (_ : SB w g2 l) (h : b + 3 < g2 ∧ g < g2 ∧ n ≤ g2) : b + 3 < g2 ∧ g < g2 ∧ n ≤ g2 := h
end
def OWs (w : World) (base : Nat) (L : List (Option Addr × Nat × List Nat)) : Prop := ∀ t ∈ L, OW w base t.1 t.2.1 t.2.2
/-- both results as they stand -/
def E6 (w : World) (b : Nat) (l1 l2 : List Value) (base : Nat) (L : List (Option Addr × Nat × List Nat)) (w' : World) : Prop := SB w' (b + 2) l1 ∧ SB w' (b + 3) l2 ∧ Below b w w' ∧ OWs w' base L
section
variable {w w1 : World} {b base : Nat} {l1 l2 : List Value} {L : List (Option Addr × Nat × List Nat)} {x y z x' y' z' : Value}
theorem E6.dr (h : E6 w b l1 l2 base L w1) : E6 w b l1 l2 base L w1.drew := ⟨h.1, h.2.1, bdN h.2.2.1 1, h.2.2.2⟩
theorem E6.putq (h : E6 w b [x, y, z, x', y', z'] l2 base L w1) (hb : b + 3 < base) : E6 w b [x, y, z, x', y', z'] l2 base L (Go.Proofs.Ytnlgoedklmjhlaa.wr6 w1 (b + 2) x y z x' y' z') :=
  ⟨h.1.put6 x y z x' y' z', h.2.1.wr6 (by omega) x y z x' y' z', wr6_below h.2.2.1 (by omega) x y z x' y' z', fun t ht => (h.2.2.2 t ht).put6 (by omega) x y z x' y' z'⟩
theorem E6.putr (h : E6 w b l1 [x, y, z, x', y', z'] base L w1) (hb : b + 3 < base) : E6 w b l1 [x, y, z, x', y', z'] base L (Go.Proofs.Ytnlgoedklmjhlaa.wr6 w1 (b + 3) x y z x' y' z') :=
  ⟨h.1.wr6 (by omega) x y z x' y' z', h.2.1.put6 x y z x' y' z', wr6_below h.2.2.1 (by omega) x y z x' y' z', fun t ht => (h.2.2.2 t ht).put6 (by omega) x y z x' y' z'⟩
end
/-- an answer: two numbers and an error -/
def RetNN (w : World) (x : Rw × Rw × Rw × Rw × Int) (e : Ending) (w' : World) : Prop := ∃ A1 c1 D1 d1 A2 c2 D2 d2 A3 c3 D3 d3 A4 c4 D4 d4,
  e = .returned (.tuple #[.agg #[.bool x.1.s, .slice A1 x.1.a.length c1, .slice D1 x.1.b.length d1, .bool x.2.1.s, .slice A2 x.2.1.a.length c2, .slice D2 x.2.1.b.length d2],
    .agg #[.bool x.2.2.1.s, .slice A3 x.2.2.1.a.length c3, .slice D3 x.2.2.1.b.length d3, .bool x.2.2.2.1.s, .slice A4 x.2.2.2.1.a.length c4, .slice D4 x.2.2.2.1.b.length d4], .int .i64 x.2.2.2.2]) ∧
  (OW w' w.heap.size A1 c1 x.1.a ∧ OW w' w.heap.size D1 d1 x.1.b ∧ OW w' w.heap.size A2 c2 x.2.1.a ∧ OW w' w.heap.size D2 d2 x.2.1.b) ∧
  (OW w' w.heap.size A3 c3 x.2.2.1.a ∧ OW w' w.heap.size D3 d3 x.2.2.1.b ∧ OW w' w.heap.size A4 c4 x.2.2.2.1.a ∧ OW w' w.heap.size D4 d4 x.2.2.2.1.b) ∧ Below w.heap.size w w'
def dm0 (k : Int) : Rw × Rw × Rw × Rw × Int := (rw0, rw0, rw0, rw0, k)
theorem retNN_nil {w w' : World} (k : Int) (hb : Below w.heap.size w w') : RetNN w (dm0 k) (.returned (.tuple #[.agg #[.bool false, .slice none 0 0, .slice none 0 0, .bool false, .slice none 0 0, .slice none 0 0], .agg #[.bool false, .slice none 0 0, .slice none 0 0, .bool false, .slice none 0 0, .slice none 0 0], .int .i64 k])) w' :=
  ⟨none, 0, none, 0, none, 0, none, 0, none, 0, none, 0, none, 0, none, 0, rfl, ⟨OW.nil _ _, OW.nil _ _, OW.nil _ _, OW.nil _ _⟩, ⟨OW.nil _ _, OW.nil _ _, OW.nil _ _, OW.nil _ _⟩, hb⟩
/-- both fitted -/
def dmG (f g : Rw × Rw × Int) : Rw × Rw × Rw × Rw × Int := if f.2.2 = 0 then (if g.2.2 = 0 then (f.1, f.2.1, g.1, g.2.1, 0) else dm0 g.2.2) else dm0 f.2.2


set_option maxRecDepth 100000 in
set_option maxHeartbeats 8000000 in
theorem edm_bad (V U : Value) (r i r' i' : Rw) (w : World) (hV : VN w w.heap.size V r i) (hU : VN w w.heap.size U r' i') (hb : ¬ chkN2 true r i r' i' = 0) :
    Calls Try.prog 31 #[V, U] w (RetNN w (dm0 (chkN2 true r i r' i'))) := by
  obtain ⟨s1, a1, b1⟩ := r
  obtain ⟨s2, a2, b2⟩ := i
  obtain ⟨t1, g1, h1⟩ := r'
  obtain ⟨t2, g2, h2⟩ := i'
  obtain ⟨A1, c1, D1, d1, A2, c2, D2, d2, rfl, p1, p2, p3, p4⟩ := hV
  obtain ⟨E1, e1, F1, f1, E2, e2, F2, f2, rfl, p5, p6, p7, p8⟩ := hU
  dsimp only at p1 p2 p3 p4 p5 p6 p7 p8 ⊢
  have k0 := D4.new w [.bool s1, .slice A1 a1.length c1, .slice D1 b1.length d1, .bool s2, .slice A2 a2.length c2, .slice D2 b2.length d2] [.bool t1, .slice E1 g1.length e1, .slice F1 h1.length f1, .bool t2, .slice E2 g2.length e2, .slice F2 h2.length f2] [.bool false, .slice none 0 0, .slice none 0 0, .bool false, .slice none 0 0, .slice none 0 0] [.bool false, .slice none 0 0, .slice none 0 0, .bool false, .slice none 0 0, .slice none 0 0] 26 26 26 26
  have C0 := k0.2.2.2.2
  have z3 : ((((w.alloc (.cells #[.bool s1, .slice A1 a1.length c1, .slice D1 b1.length d1, .bool s2, .slice A2 a2.length c2, .slice D2 b2.length d2] 26)).alloc (.cells #[.bool t1, .slice E1 g1.length e1, .slice F1 h1.length f1, .bool t2, .slice E2 g2.length e2, .slice F2 h2.length f2] 26)).alloc (.cells #[.bool false, .slice none 0 0, .slice none 0 0, .bool false, .slice none 0 0, .slice none 0 0] 26)).alloc (.cells #[.bool false, .slice none 0 0, .slice none 0 0, .bool false, .slice none 0 0, .slice none 0 0] 26)).heap.size = w.heap.size + 4 := by simp
  have Bs := bal ((((w.alloc (.cells #[.bool s1, .slice A1 a1.length c1, .slice D1 b1.length d1, .bool s2, .slice A2 a2.length c2, .slice D2 b2.length d2] 26)).alloc (.cells #[.bool t1, .slice E1 g1.length e1, .slice F1 h1.length f1, .bool t2, .slice E2 g2.length e2, .slice F2 h2.length f2] 26)).alloc (.cells #[.bool false, .slice none 0 0, .slice none 0 0, .bool false, .slice none 0 0, .slice none 0 0] 26)).alloc (.cells #[.bool false, .slice none 0 0, .slice none 0 0, .bool false, .slice none 0 0, .slice none 0 0] 26)) (.cells #[.bool s1, .slice A1 a1.length c1, .slice D1 b1.length d1, .bool s2, .slice A2 a2.length c2, .slice D2 b2.length d2, .bool t1, .slice E1 g1.length e1, .slice F1 h1.length f1, .bool t2, .slice E2 g2.length e2, .slice F2 h2.length f2] 26)
  have sg := SB.new ((((w.alloc (.cells #[.bool s1, .slice A1 a1.length c1, .slice D1 b1.length d1, .bool s2, .slice A2 a2.length c2, .slice D2 b2.length d2] 26)).alloc (.cells #[.bool t1, .slice E1 g1.length e1, .slice F1 h1.length f1, .bool t2, .slice E2 g2.length e2, .slice F2 h2.length f2] 26)).alloc (.cells #[.bool false, .slice none 0 0, .slice none 0 0, .bool false, .slice none 0 0, .slice none 0 0] 26)).alloc (.cells #[.bool false, .slice none 0 0, .slice none 0 0, .bool false, .slice none 0 0, .slice none 0 0] 26)) [.bool s1, .slice A1 a1.length c1, .slice D1 b1.length d1, .bool s2, .slice A2 a2.length c2, .slice D2 b2.length d2, .bool t1, .slice E1 g1.length e1, .slice F1 h1.length f1, .bool t2, .slice E2 g2.length e2, .slice F2 h2.length f2] 26
  rw [z3] at sg
  have C1 := bt C0 Bs
  have k1 := k0.nx Bs
  have hck := check2x_any true (w.heap.size + 4) _ _ _ _ _ _ _ _ _ _ _ _ _ _ _ _ _ _ _ _ _ _ _ _ _ _ _ _ _ sg (st p1 C1) (st p2 C1) (st p3 C1) (st p4 C1) (st p5 C1) (st p6 C1) (st p7 C1) (st p8 C1)
  generalize chkN2 true ⟨s1, a1, b1⟩ ⟨s2, a2, b2⟩ ⟨t1, g1, h1⟩ ⟨t2, g2, h2⟩ = k at *
  have hb2 : (k == 0) = false := beq_eq_false_iff_ne.2 hb
  clear sg k0 p1 p2 p3 p4 p5 p6 p7 p8
  go_enter Try.func31, Try.ntmps31
  go_wp2_with fail
  refine hck.mono ?_; rintro e w3 ⟨rfl, B3⟩
  clear hck
  have k3 := k1.nx B3
  have hR1 := k3.2.2.1
  have ky := k3.putq (.bool false) (.slice none 0 0) (.slice none 0 0) (.bool false) (.slice none 0 0) (.slice none 0 0)
  have sq := hR1.put6 (.bool false) (.slice none 0 0) (.slice none 0 0) (.bool false) (.slice none 0 0) (.slice none 0 0)
  obtain ⟨W1, hW1⟩ : ∃ W1, W1 = wr6 w3 (w.heap.size + 2) (.bool false) (.slice none 0 0) (.slice none 0 0) (.bool false) (.slice none 0 0) (.slice none 0 0) := ⟨_, rfl⟩
  rw [← hW1] at ky sq
  have hR2 := ky.2.2.2.1
  go_wp2_with ((refine wp_st6 rfl (.tmp 4) (.tmp 17) rfl _ rfl _ _ _ _ _ _ rfl hR1 rfl rfl rfl rfl rfl rfl ?_; rw [← hW1]; clear hW1; refine wp_st6 rfl (.tmp 5) (.tmp 18) rfl _ rfl _ _ _ _ _ _ rfl hR2 rfl rfl rfl rfl rfl rfl ?_))
  have kz := ky.putr (.bool false) (.slice none 0 0) (.slice none 0 0) (.bool false) (.slice none 0 0) (.slice none 0 0)
  have sq := sq.wr6 (r := w.heap.size + 3) (by omega) (.bool false) (.slice none 0 0) (.slice none 0 0) (.bool false) (.slice none 0 0) (.slice none 0 0)
  have sr := hR2.put6 (.bool false) (.slice none 0 0) (.slice none 0 0) (.bool false) (.slice none 0 0) (.slice none 0 0)
  have q0' := sq.cell 0
  have q1' := sq.cell 1
  have q2' := sq.cell 2
  have q3' := sq.cell 3
  have q4' := sq.cell 4
  have q5' := sq.cell 5
  have r0' := sr.cell 0
  have r1' := sr.cell 1
  have r2' := sr.cell 2
  have r3' := sr.cell 3
  have r4' := sr.cell 4
  have r5' := sr.cell 5
  refine bodyPost_ret (v := .tuple #[.agg #[.bool false, .slice none 0 0, .slice none 0 0, .bool false, .slice none 0 0, .slice none 0 0], .agg #[.bool false, .slice none 0 0, .slice none 0 0, .bool false, .slice none 0 0, .slice none 0 0], .int .i64 k]) (by simp [results, q0', q1', q2', q3', q4', q5', r0', r1', r2', r3', r4', r5', go_sem]) rfl ?_
  exact retNN_nil k kz.2.2.2.2


set_option maxRecDepth 100000 in
set_option maxHeartbeats 8000000 in
theorem edm_zero (V U : Value) (x y u v : Rat) (w : World) (hV : RN w w.heap.size V x y) (hU : RN w w.heap.size U u v) (_bx : qw x ≤ 512) (_bu : qw u ≤ 512) (hz : chkN2 true (rwq x) (rwq y) (rwq u) (rwq v) = 0) (h0 : u = 0 ∧ v = 0) :
    Calls Try.prog 31 #[V, U] w (RetNN w (dm0 3)) := by
  obtain ⟨A1, c1, D1, d1, A2, c2, D2, d2, rfl, p1, p2, p3, p4⟩ := hV
  obtain ⟨E1, e1, F1, f1, E2, e2, F2, f2, rfl, p5, p6, p7, p8⟩ := hU
  simp only [rwq] at p1 p2 p3 p4 p5 p6 p7 p8 hz ⊢
  have k0 := D4.new w [.bool (qn x), .slice A1 (digs (qt x)).length c1, .slice D1 (digs (qd x)).length d1, .bool (qn y), .slice A2 (digs (qt y)).length c2, .slice D2 (digs (qd y)).length d2] [.bool (qn u), .slice E1 (digs (qt u)).length e1, .slice F1 (digs (qd u)).length f1, .bool (qn v), .slice E2 (digs (qt v)).length e2, .slice F2 (digs (qd v)).length f2] [.bool false, .slice none 0 0, .slice none 0 0, .bool false, .slice none 0 0, .slice none 0 0] [.bool false, .slice none 0 0, .slice none 0 0, .bool false, .slice none 0 0, .slice none 0 0] 26 26 26 26
  have C0 := k0.2.2.2.2
  have z3 : ((((w.alloc (.cells #[.bool (qn x), .slice A1 (digs (qt x)).length c1, .slice D1 (digs (qd x)).length d1, .bool (qn y), .slice A2 (digs (qt y)).length c2, .slice D2 (digs (qd y)).length d2] 26)).alloc (.cells #[.bool (qn u), .slice E1 (digs (qt u)).length e1, .slice F1 (digs (qd u)).length f1, .bool (qn v), .slice E2 (digs (qt v)).length e2, .slice F2 (digs (qd v)).length f2] 26)).alloc (.cells #[.bool false, .slice none 0 0, .slice none 0 0, .bool false, .slice none 0 0, .slice none 0 0] 26)).alloc (.cells #[.bool false, .slice none 0 0, .slice none 0 0, .bool false, .slice none 0 0, .slice none 0 0] 26)).heap.size = w.heap.size + 4 := by simp
  have Bs := bal ((((w.alloc (.cells #[.bool (qn x), .slice A1 (digs (qt x)).length c1, .slice D1 (digs (qd x)).length d1, .bool (qn y), .slice A2 (digs (qt y)).length c2, .slice D2 (digs (qd y)).length d2] 26)).alloc (.cells #[.bool (qn u), .slice E1 (digs (qt u)).length e1, .slice F1 (digs (qd u)).length f1, .bool (qn v), .slice E2 (digs (qt v)).length e2, .slice F2 (digs (qd v)).length f2] 26)).alloc (.cells #[.bool false, .slice none 0 0, .slice none 0 0, .bool false, .slice none 0 0, .slice none 0 0] 26)).alloc (.cells #[.bool false, .slice none 0 0, .slice none 0 0, .bool false, .slice none 0 0, .slice none 0 0] 26)) (.cells #[.bool (qn x), .slice A1 (digs (qt x)).length c1, .slice D1 (digs (qd x)).length d1, .bool (qn y), .slice A2 (digs (qt y)).length c2, .slice D2 (digs (qd y)).length d2, .bool (qn u), .slice E1 (digs (qt u)).length e1, .slice F1 (digs (qd u)).length f1, .bool (qn v), .slice E2 (digs (qt v)).length e2, .slice F2 (digs (qd v)).length f2] 26)
  have sg := SB.new ((((w.alloc (.cells #[.bool (qn x), .slice A1 (digs (qt x)).length c1, .slice D1 (digs (qd x)).length d1, .bool (qn y), .slice A2 (digs (qt y)).length c2, .slice D2 (digs (qd y)).length d2] 26)).alloc (.cells #[.bool (qn u), .slice E1 (digs (qt u)).length e1, .slice F1 (digs (qd u)).length f1, .bool (qn v), .slice E2 (digs (qt v)).length e2, .slice F2 (digs (qd v)).length f2] 26)).alloc (.cells #[.bool false, .slice none 0 0, .slice none 0 0, .bool false, .slice none 0 0, .slice none 0 0] 26)).alloc (.cells #[.bool false, .slice none 0 0, .slice none 0 0, .bool false, .slice none 0 0, .slice none 0 0] 26)) [.bool (qn x), .slice A1 (digs (qt x)).length c1, .slice D1 (digs (qd x)).length d1, .bool (qn y), .slice A2 (digs (qt y)).length c2, .slice D2 (digs (qd y)).length d2, .bool (qn u), .slice E1 (digs (qt u)).length e1, .slice F1 (digs (qd u)).length f1, .bool (qn v), .slice E2 (digs (qt v)).length e2, .slice F2 (digs (qd v)).length f2] 26
  rw [z3] at sg
  have C1 := bt C0 Bs
  have k1 := k0.nx Bs
  have hck := check2x_any true (w.heap.size + 4) _ _ _ _ _ _ _ _ _ _ _ _ _ _ _ _ _ _ _ _ _ _ _ _ _ _ _ _ _ sg (st p1 C1) (st p2 C1) (st p3 C1) (st p4 C1) (st p5 C1) (st p6 C1) (st p7 C1) (st p8 C1)
  rw [hz] at hck
  have hZ := fun w' h => zero_any (.agg #[.bool (qn u), .slice E1 (digs (qt u)).length e1, .slice F1 (digs (qd u)).length f1, .bool (qn v), .slice E2 (digs (qt v)).length e2, .slice F2 (digs (qd v)).length f2]) (rwq u) (rwq v) w' h
  rw [zeroB_q] at hZ
  clear hz sg k0
  rw [decide_eq_true h0] at hZ
  clear h0
  go_enter Try.func31, Try.ntmps31
  go_wp2_with fail
  refine hck.mono ?_; rintro e w3 ⟨rfl, B3⟩
  clear hck
  have k3 := k1.nx B3
  have C3 := bt C1 B3
  have j0 := k3.2.1.cell 0
  have j1 := k3.2.1.cell 1
  have j2 := k3.2.1.cell 2
  have j3 := k3.2.1.cell 3
  have j4 := k3.2.1.cell 4
  have j5 := k3.2.1.cell 5
  go_wp2_with fail
  refine (hZ _ ⟨E1, e1, F1, f1, E2, e2, F2, f2, rfl, st p5 C3, st p6 C3, st p7 C3, st p8 C3⟩).mono ?_; rintro e w4 ⟨rfl, B4⟩
  clear hZ j0 j1 j2 j3 j4 j5
  have k4 := k3.nx B4
  have C4 := bt C3 B4
  have hR1 := k4.2.2.1
  have ky := k4.putq (.bool false) (.slice none 0 0) (.slice none 0 0) (.bool false) (.slice none 0 0) (.slice none 0 0)
  have sq := hR1.put6 (.bool false) (.slice none 0 0) (.slice none 0 0) (.bool false) (.slice none 0 0) (.slice none 0 0)
  obtain ⟨W1, hW1⟩ : ∃ W1, W1 = wr6 w4 (w.heap.size + 2) (.bool false) (.slice none 0 0) (.slice none 0 0) (.bool false) (.slice none 0 0) (.slice none 0 0) := ⟨_, rfl⟩
  rw [← hW1] at ky sq
  have hR2 := ky.2.2.2.1
  go_wp2_with ((refine wp_st6 rfl (.tmp 4) (.tmp 22) rfl _ rfl _ _ _ _ _ _ rfl hR1 rfl rfl rfl rfl rfl rfl ?_; rw [← hW1]; clear hW1; refine wp_st6 rfl (.tmp 5) (.tmp 23) rfl _ rfl _ _ _ _ _ _ rfl hR2 rfl rfl rfl rfl rfl rfl ?_))
  have kz := ky.putr (.bool false) (.slice none 0 0) (.slice none 0 0) (.bool false) (.slice none 0 0) (.slice none 0 0)
  have sq := sq.wr6 (r := w.heap.size + 3) (by omega) (.bool false) (.slice none 0 0) (.slice none 0 0) (.bool false) (.slice none 0 0) (.slice none 0 0)
  have sr := hR2.put6 (.bool false) (.slice none 0 0) (.slice none 0 0) (.bool false) (.slice none 0 0) (.slice none 0 0)
  have q0' := sq.cell 0
  have q1' := sq.cell 1
  have q2' := sq.cell 2
  have q3' := sq.cell 3
  have q4' := sq.cell 4
  have q5' := sq.cell 5
  have r0' := sr.cell 0
  have r1' := sr.cell 1
  have r2' := sr.cell 2
  have r3' := sr.cell 3
  have r4' := sr.cell 4
  have r5' := sr.cell 5
  refine bodyPost_ret (v := .tuple #[.agg #[.bool false, .slice none 0 0, .slice none 0 0, .bool false, .slice none 0 0, .slice none 0 0], .agg #[.bool false, .slice none 0 0, .slice none 0 0, .bool false, .slice none 0 0, .slice none 0 0], .int .i64 3]) (by simp [results, q0', q1', q2', q3', q4', q5', r0', r1', r2', r3', r4', r5', go_sem]) rfl ?_
  exact retNN_nil 3 kz.2.2.2.2

end Go.Proofs.Ytnlgoedklmjhlaa
namespace Go.Proofs.Ytnlgoedklmjhlaa
open Go.RowKit

theorem setCell_id {w : World} {b i : Nat} {v : Value} (h : w.cell? ⟨b, i, none⟩ = some v) : w.setCell ⟨b, i, none⟩ v = w := by
  have e : (w.setCell ⟨b, i, none⟩ v).heap = w.heap := by
    unfold World.setCell
    apply Array.ext_getElem?
    intro k
    simp only [Array.getElem?_modify]
    split
    · next hk =>
      subst hk
      unfold World.cell? at h
      cases ho : w.heap[b]? with
      | none => rfl
      | some o =>
        rw [ho] at h
        cases o with
        | cells c t f =>
          simp at h ⊢
          apply Array.ext_getElem?
          intro j
          rw [Array.getElem?_setIfInBounds]
          split
          · next hj =>
            subst hj
            split
            · exact h.symm
            · next hn => rw [Array.getElem?_eq_none (by omega)]
          · rfl
        | _ => rfl
    · rfl
  have e2 : w.setCell ⟨b, i, none⟩ v = { w with heap := (w.setCell ⟨b, i, none⟩ v).heap } := rfl
  rw [e2, e]
attribute [local go_sem] setCell_id


set_option maxRecDepth 100000 in
set_option maxHeartbeats 16000000 in
theorem edm_ok (V U : Value) (x y u v : Rat) (w : World) (hV : RN w w.heap.size V x y) (hU : RN w w.heap.size U u v) (bx : qw x ≤ 512) (bu : qw u ≤ 512) (hz : chkN2 true (rwq x) (rwq y) (rwq u) (rwq v) = 0) (h0 : ¬ (u = 0 ∧ v = 0)) (hu0 : u ≠ 0) :
    Calls Try.prog 31 #[V, U] w (RetNN w (dmG (fitQ (if qn u = true then -((flr (x * (ab u)⁻¹) : Int) : Rat) else ((flr (x * (ab u)⁻¹) : Int) : Rat)) 0) (fitQ (x + -(((flr (x * (ab u)⁻¹) : Int) : Rat) * ab u)) 0))) := by
  obtain ⟨A1, c1, D1, d1, A2, c2, D2, d2, rfl, p1, p2, p3, p4⟩ := hV
  obtain ⟨E1, e1, F1, f1, E2, e2, F2, f2, rfl, p5, p6, p7, p8⟩ := hU
  simp only [rwq] at p1 p2 p3 p4 p5 p6 p7 p8 hz ⊢
  have k0 := D4.new w [.bool (qn x), .slice A1 (digs (qt x)).length c1, .slice D1 (digs (qd x)).length d1, .bool (qn y), .slice A2 (digs (qt y)).length c2, .slice D2 (digs (qd y)).length d2] [.bool (qn u), .slice E1 (digs (qt u)).length e1, .slice F1 (digs (qd u)).length f1, .bool (qn v), .slice E2 (digs (qt v)).length e2, .slice F2 (digs (qd v)).length f2] [.bool false, .slice none 0 0, .slice none 0 0, .bool false, .slice none 0 0, .slice none 0 0] [.bool false, .slice none 0 0, .slice none 0 0, .bool false, .slice none 0 0, .slice none 0 0] 26 26 26 26
  have C0 := k0.2.2.2.2
  have z3 : ((((w.alloc (.cells #[.bool (qn x), .slice A1 (digs (qt x)).length c1, .slice D1 (digs (qd x)).length d1, .bool (qn y), .slice A2 (digs (qt y)).length c2, .slice D2 (digs (qd y)).length d2] 26)).alloc (.cells #[.bool (qn u), .slice E1 (digs (qt u)).length e1, .slice F1 (digs (qd u)).length f1, .bool (qn v), .slice E2 (digs (qt v)).length e2, .slice F2 (digs (qd v)).length f2] 26)).alloc (.cells #[.bool false, .slice none 0 0, .slice none 0 0, .bool false, .slice none 0 0, .slice none 0 0] 26)).alloc (.cells #[.bool false, .slice none 0 0, .slice none 0 0, .bool false, .slice none 0 0, .slice none 0 0] 26)).heap.size = w.heap.size + 4 := by simp
  have Bs := bal ((((w.alloc (.cells #[.bool (qn x), .slice A1 (digs (qt x)).length c1, .slice D1 (digs (qd x)).length d1, .bool (qn y), .slice A2 (digs (qt y)).length c2, .slice D2 (digs (qd y)).length d2] 26)).alloc (.cells #[.bool (qn u), .slice E1 (digs (qt u)).length e1, .slice F1 (digs (qd u)).length f1, .bool (qn v), .slice E2 (digs (qt v)).length e2, .slice F2 (digs (qd v)).length f2] 26)).alloc (.cells #[.bool false, .slice none 0 0, .slice none 0 0, .bool false, .slice none 0 0, .slice none 0 0] 26)).alloc (.cells #[.bool false, .slice none 0 0, .slice none 0 0, .bool false, .slice none 0 0, .slice none 0 0] 26)) (.cells #[.bool (qn x), .slice A1 (digs (qt x)).length c1, .slice D1 (digs (qd x)).length d1, .bool (qn y), .slice A2 (digs (qt y)).length c2, .slice D2 (digs (qd y)).length d2, .bool (qn u), .slice E1 (digs (qt u)).length e1, .slice F1 (digs (qd u)).length f1, .bool (qn v), .slice E2 (digs (qt v)).length e2, .slice F2 (digs (qd v)).length f2] 26)
  have sg := SB.new ((((w.alloc (.cells #[.bool (qn x), .slice A1 (digs (qt x)).length c1, .slice D1 (digs (qd x)).length d1, .bool (qn y), .slice A2 (digs (qt y)).length c2, .slice D2 (digs (qd y)).length d2] 26)).alloc (.cells #[.bool (qn u), .slice E1 (digs (qt u)).length e1, .slice F1 (digs (qd u)).length f1, .bool (qn v), .slice E2 (digs (qt v)).length e2, .slice F2 (digs (qd v)).length f2] 26)).alloc (.cells #[.bool false, .slice none 0 0, .slice none 0 0, .bool false, .slice none 0 0, .slice none 0 0] 26)).alloc (.cells #[.bool false, .slice none 0 0, .slice none 0 0, .bool false, .slice none 0 0, .slice none 0 0] 26)) [.bool (qn x), .slice A1 (digs (qt x)).length c1, .slice D1 (digs (qd x)).length d1, .bool (qn y), .slice A2 (digs (qt y)).length c2, .slice D2 (digs (qd y)).length d2, .bool (qn u), .slice E1 (digs (qt u)).length e1, .slice F1 (digs (qd u)).length f1, .bool (qn v), .slice E2 (digs (qt v)).length e2, .slice F2 (digs (qd v)).length f2] 26
  rw [z3] at sg
  have C1 := bt C0 Bs
  have k1 := k0.nx Bs
  have hck := check2x_any true (w.heap.size + 4) _ _ _ _ _ _ _ _ _ _ _ _ _ _ _ _ _ _ _ _ _ _ _ _ _ _ _ _ _ sg (st p1 C1) (st p2 C1) (st p3 C1) (st p4 C1) (st p5 C1) (st p6 C1) (st p7 C1) (st p8 C1)
  rw [hz] at hck
  have hZ := fun w' h => zero_any (.agg #[.bool (qn u), .slice E1 (digs (qt u)).length e1, .slice F1 (digs (qd u)).length f1, .bool (qn v), .slice E2 (digs (qt v)).length e2, .slice F2 (digs (qd v)).length f2]) (rwq u) (rwq v) w' h
  rw [zeroB_q] at hZ
  clear hz sg k0
  rw [decide_eq_false h0] at hZ
  clear h0
  have hne : qt (ab u) ≠ 0 := by rw [ab_t]; exact fun h => hu0 (qt_zero.1 h)
  have q1 := qw_inv (ab_n u) hne
  have q2 := qw_ab u
  have q3 := qw_mul x (ab u)⁻¹
  have q4 := qw_flr (x * (ab u)⁻¹)
  have b1 : qw x + qw (ab u)⁻¹ ≤ 14000 := by omega
  have hx : RQ w w.heap.size (.agg #[.bool (qn x), .slice A1 (digs (qt x)).length c1, .slice D1 (digs (qd x)).length d1]) x := ⟨A1, c1, D1, d1, rfl, p1, p2⟩
  have hub : RQ w w.heap.size (.agg #[.bool false, .slice E1 (digs (qt u)).length e1, .slice F1 (digs (qd u)).length f1]) (ab u) := ⟨E1, e1, F1, f1, by rw [ab_n, ab_t, ab_d], by rw [ab_t]; exact p5, by rw [ab_d]; exact p6⟩
  have hui : RQ w w.heap.size (.agg #[.bool false, .slice F1 (digs (qd u)).length f1, .slice E1 (digs (qt u)).length e1]) (ab u)⁻¹ := by
    have h := rq_inv (q := ab u) (w := w) (B := w.heap.size) (A := E1) (c := e1) (D := F1) (d := f1) (ab_n u) hne (by rw [ab_t]; exact p5) (by rw [ab_d]; exact p6)
    rw [ab_t, ab_d] at h
    exact h
  have hPr := fun V U w' h1 h2 => product_any V U x (ab u)⁻¹ w' h1 h2 b1
  have hL := fun V w' h => efloor_any V (x * (ab u)⁻¹) w' h (by omega)
  have hW := fun w' => whole_any false none 0 0 [] w' rfl (RW.nil _ _ _ _) Nrm_nil (by simp)
  rw [show ((sgn false (val []) : Int) : Rat) = 0 by rw [sgn_false]; rfl] at hW
  generalize ((flr (x * (ab u)⁻¹) : Int) : Rat) = n at *
  have q5 := qw_mul n (ab u)
  have hb1 : qw n + qw (ab u) ≤ 14000 := by omega
  have hb2 : qw x + qw (-(n * ab u)) ≤ 14000 := by rw [qw_neg]; omega
  generalize (x * (ab u)⁻¹) = n0 at *
  have hF := fun V U w' h1 h2 => efit_any V U (if qn u = true then -n else n) 0 w' h1 h2
  have hG := fun V U w' h1 h2 => efit_any V U (x + -(n * ab u)) 0 w' h1 h2
  generalize fitQ (if qn u = true then -n else n) 0 = ft at *
  obtain ⟨q, hq⟩ : ∃ q : Rat, Hid ((if qn u = true then -n else n) = q) := ⟨_, rfl⟩
  rw [hq.out] at hF
  generalize fitQ (x + -(n * ab u)) 0 = gt at *
  have hS := fun V U w' h1 h2 => sum_any V U x (-(n * ab u)) w' h1 h2 hb2
  obtain ⟨s, hs⟩ : ∃ s : Rat, Hid ((x + -(n * ab u)) = s) := ⟨_, rfl⟩
  rw [hs.out] at hS hG
  clear hs
  obtain ⟨fr, fi, fk⟩ := ft
  obtain ⟨gr, gi, gk⟩ := gt
  clear q1 q2 q3 q4 q5 b1 hne hu0 bx bu
  go_enter Try.func31, Try.ntmps31
  go_wp2_with fail
  refine hck.mono ?_; rintro e w3 ⟨rfl, B3⟩
  clear hck
  have k3 := k1.nx B3
  have C3 := bt C1 B3
  have j0 := k3.2.1.cell 0
  have j1 := k3.2.1.cell 1
  have j2 := k3.2.1.cell 2
  have j3 := k3.2.1.cell 3
  have j4 := k3.2.1.cell 4
  have j5 := k3.2.1.cell 5
  go_wp2_with fail
  refine (hZ _ ⟨E1, e1, F1, f1, E2, e2, F2, f2, rfl, st p5 C3, st p6 C3, st p7 C3, st p8 C3⟩).mono ?_; rintro e w4 ⟨rfl, B4⟩
  clear hZ j0 j1 j2 j3 j4 j5
  have k4 := k3.nx B4
  have C4 := bt C3 B4
  have i0 := k4.1.cell 0
  have i1 := k4.1.cell 1
  have i2 := k4.1.cell 2
  have j1 := k4.2.1.cell 1
  have j2 := k4.2.1.cell 2
  go_wp2_with fail
  refine (hPr _ _ _ (hx.st C4) (hui.st C4)).mono ?_; rintro e w5 ⟨A5, c5, M5, m5, rfl, O5, P5, BX⟩
  clear i0 i1 i2 j1 j2 p1 p2 p3 p4 p5 p6 p7 p8 hui
  have k5 := k4.nx BX
  clear BX
  have BX := bal w5 (.cells #[.bool (qn n0), .slice A5 (digs (qt n0)).length c5, .slice M5 (digs (qd n0)).length m5] 24)
  have s8 := SB.new w5 [.bool (qn n0), .slice A5 (digs (qt n0)).length c5, .slice M5 (digs (qd n0)).length m5] 24
  have hg8 : w.heap.size + 3 < w5.heap.size := k5.2.2.2.1.2
  have k5 := k5.nx BX
  have i0 := s8.cell 0
  have i1 := s8.cell 1
  have i2 := s8.cell 2
  go_wp2_with fail
  refine (hL _ _ ⟨A5, c5, M5, m5, rfl, st O5.rw BX, st P5.rw BX⟩).mono ?_; rintro e w6 ⟨A8, c8, M8, m8, rfl, O8, P8, BY⟩
  have O8 := O8.base_le s8.2
  have P8 := P8.base_le s8.2
  have k6 := k5.nx BY
  have s8 := s8.nx BY
  clear BX BY i0 i1 i2 O5 P5 k5 C0 C1 C3 C4
  generalize w5.heap.size = g8 at *
  obtain ⟨W, hW⟩ : ∃ W, W = wr3 w6 g8 (.bool (qn n)) (.slice A8 (digs (qt n)).length c8) (.slice M8 (digs (qd n)).length m8) := ⟨_, rfl⟩
  have i0 := s8.cell 0
  have i1 := s8.cell 1
  have i2 := s8.cell 2
  have h0 := s8.frozen 0
  have h1 := s8.frozen 1
  have h2 := s8.frozen 2
  have k6' := k6.wr3 hg8 (.bool (qn n)) (.slice A8 (digs (qt n)).length c8) (.slice M8 (digs (qd n)).length m8)
  have s8' := s8.put3 (.bool (qn n)) (.slice A8 (digs (qt n)).length c8) (.slice M8 (digs (qd n)).length m8)
  have O8' := O8.put3 (b := g8) (Nat.lt_succ_self _) (.bool (qn n)) (.slice A8 (digs (qt n)).length c8) (.slice M8 (digs (qd n)).length m8)
  have P8' := P8.put3 (b := g8) (Nat.lt_succ_self _) (.bool (qn n)) (.slice A8 (digs (qt n)).length c8) (.slice M8 (digs (qd n)).length m8)
  rw [← hW] at k6' s8' O8' P8'
  unfold wr3 at hW
  clear k6 s8 O8 P8 
  go_upto_region 8 with fail
  rw [← hW]
  clear hW i0 i1 i2 h0 h1 h2
  have k6 := k6'
  clear k6'
  have s8 := s8'
  clear s8'
  have O8 := O8'
  clear O8'
  have P8 := P8'
  clear P8'
  have HN : RQ W W.heap.size (.agg #[.bool (qn n), .slice A8 (digs (qt n)).length c8, .slice M8 (digs (qd n)).length m8]) n := ⟨A8, c8, M8, m8, rfl, O8.rw, P8.rw⟩
  have k8 : D5 w W w.heap.size [.bool (qn x), .slice A1 (digs (qt x)).length c1, .slice D1 (digs (qd x)).length d1, .bool (qn y), .slice A2 (digs (qt y)).length c2, .slice D2 (digs (qd y)).length d2] [.bool (qn u), .slice E1 (digs (qt u)).length e1, .slice F1 (digs (qd u)).length f1, .bool (qn v), .slice E2 (digs (qt v)).length e2, .slice F2 (digs (qd v)).length f2] g8 [.bool (qn n), .slice A8 (digs (qt n)).length c8, .slice M8 (digs (qd n)).length m8] W := ⟨k6, s8, Below.refl _ _⟩
  have z8 := And.intro k8.1.2.2.2.1.2 (And.intro k8.2.1.2 (Nat.le_refl W.heap.size))
  have conjS : ∀ w', D5 w W w.heap.size [.bool (qn x), .slice A1 (digs (qt x)).length c1, .slice D1 (digs (qd x)).length d1, .bool (qn y), .slice A2 (digs (qt y)).length c2, .slice D2 (digs (qd y)).length d2] [.bool (qn u), .slice E1 (digs (qt u)).length e1, .slice F1 (digs (qd u)).length f1, .bool (qn v), .slice E2 (digs (qt v)).length e2, .slice F2 (digs (qd v)).length f2] g8 [.bool (qn n), .slice A8 (digs (qt n)).length c8, .slice M8 (digs (qd n)).length m8] w' → w'.cell? ⟨w.heap.size, 0, none⟩ = some (.bool (qn x)) ∧ w'.cell? ⟨w.heap.size, 1, none⟩ = some (.slice A1 (digs (qt x)).length c1) ∧ w'.cell? ⟨w.heap.size, 2, none⟩ = some (.slice D1 (digs (qd x)).length d1) ∧ w'.cell? ⟨w.heap.size + 1, 1, none⟩ = some (.slice E1 (digs (qt u)).length e1) ∧ w'.cell? ⟨w.heap.size + 1, 2, none⟩ = some (.slice F1 (digs (qd u)).length f1) ∧ w'.cell? ⟨g8, 0, none⟩ = some (.bool (qn n)) ∧ w'.cell? ⟨g8, 1, none⟩ = some (.slice A8 (digs (qt n)).length c8) ∧ w'.cell? ⟨g8, 2, none⟩ = some (.slice M8 (digs (qd n)).length m8) ∧ D5 w W w.heap.size [.bool (qn x), .slice A1 (digs (qt x)).length c1, .slice D1 (digs (qd x)).length d1, .bool (qn y), .slice A2 (digs (qt y)).length c2, .slice D2 (digs (qd y)).length d2] [.bool (qn u), .slice E1 (digs (qt u)).length e1, .slice F1 (digs (qd u)).length f1, .bool (qn v), .slice E2 (digs (qt v)).length e2, .slice F2 (digs (qd v)).length f2] g8 [.bool (qn n), .slice A8 (digs (qt n)).length c8, .slice M8 (digs (qd n)).length m8] w' := fun w' h => ⟨h.1.1.cell 0, h.1.1.cell 1, h.1.1.cell 2, h.1.2.1.cell 1, h.1.2.1.cell 2, h.2.1.cell 0, h.2.1.cell 1, h.2.1.cell 2, h⟩
  clear k6 s8
  go_cut [9] (fun s9 wx => ∃ (g : Nat) (A : Option Addr) (c : Nat) (M : Option Addr) (m : Nat), s9 = .pointer (some ⟨g, 0, none⟩) ∧ SB wx g [.bool (qn s), .slice A (digs (qt s)).length c, .slice M (digs (qd s)).length m] ∧ D5 w W w.heap.size [.bool (qn x), .slice A1 (digs (qt x)).length c1, .slice D1 (digs (qd x)).length d1, .bool (qn y), .slice A2 (digs (qt y)).length c2, .slice D2 (digs (qd y)).length d2] [.bool (qn u), .slice E1 (digs (qt u)).length e1, .slice F1 (digs (qd u)).length f1, .bool (qn v), .slice E2 (digs (qt v)).length e2, .slice F2 (digs (qd v)).length f2] g8 [.bool (qn n), .slice A8 (digs (qt n)).length c8, .slice M8 (digs (qd n)).length m8] wx ∧ g8 < g ∧ OW wx (g8 + 1) A c (digs (qt s)) ∧ OW wx (g8 + 1) M m (digs (qd s)))
  case first =>
    have k8d := k8.dr
    have k8s := And.intro (k8d.1.1.cell 0) (And.intro (k8d.1.1.cell 1) (And.intro (k8d.1.1.cell 2) (And.intro (k8d.1.2.1.cell 1) (And.intro (k8d.1.2.1.cell 2) (And.intro (k8d.2.1.cell 0) (And.intro (k8d.2.1.cell 1) (And.intro (k8d.2.1.cell 2) (k8d))))))))
    go_region_held3 (fun w' => w'.cell? ⟨w.heap.size, 0, none⟩ = some (.bool (qn x)) ∧ w'.cell? ⟨w.heap.size, 1, none⟩ = some (.slice A1 (digs (qt x)).length c1) ∧ w'.cell? ⟨w.heap.size, 2, none⟩ = some (.slice D1 (digs (qd x)).length d1) ∧ w'.cell? ⟨w.heap.size + 1, 1, none⟩ = some (.slice E1 (digs (qt u)).length e1) ∧ w'.cell? ⟨w.heap.size + 1, 2, none⟩ = some (.slice F1 (digs (qd u)).length f1) ∧ w'.cell? ⟨g8, 0, none⟩ = some (.bool (qn n)) ∧ w'.cell? ⟨g8, 1, none⟩ = some (.slice A8 (digs (qt n)).length c8) ∧ w'.cell? ⟨g8, 2, none⟩ = some (.slice M8 (digs (qd n)).length m8) ∧ D5 w W w.heap.size [.bool (qn x), .slice A1 (digs (qt x)).length c1, .slice D1 (digs (qd x)).length d1, .bool (qn y), .slice A2 (digs (qt y)).length c2, .slice D2 (digs (qd y)).length d2] [.bool (qn u), .slice E1 (digs (qt u)).length e1, .slice F1 (digs (qd u)).length f1, .bool (qn v), .slice E2 (digs (qt v)).length e2, .slice F2 (digs (qd v)).length f2] g8 [.bool (qn n), .slice A8 (digs (qt n)).length c8, .slice M8 (digs (qd n)).length m8] w')
      (first
        | with_reducible exact kws.out
        | with_reducible exact k8s
        | (have s1 := (by with_reducible assumption : _ ∧ _ ∧ _ ∧ _ ∧ _ ∧ _ ∧ _ ∧ _ ∧ D5 w W w.heap.size [.bool (qn x), .slice A1 (digs (qt x)).length c1, .slice D1 (digs (qd x)).length d1, .bool (qn y), .slice A2 (digs (qt y)).length c2, .slice D2 (digs (qd y)).length d2] [.bool (qn u), .slice E1 (digs (qt u)).length e1, .slice F1 (digs (qd u)).length f1, .bool (qn v), .slice E2 (digs (qt v)).length e2, .slice F2 (digs (qd v)).length f2] g8 [.bool (qn n), .slice A8 (digs (qt n)).length c8, .slice M8 (digs (qd n)).length m8] _).2.2.2.2.2.2.2.2.nx BX; have q0_ := s1.1.1.cell 0; have q1_ := s1.1.1.cell 1; have q2_ := s1.1.1.cell 2; have q3_ := s1.1.2.1.cell 1; have q4_ := s1.1.2.1.cell 2; have q5_ := s1.2.1.cell 0; have q6_ := s1.2.1.cell 1; have q7_ := s1.2.1.cell 2; with_reducible exact ⟨q0_, q1_, q2_, q3_, q4_, q5_, q6_, q7_, s1⟩)
        | with_reducible exact conjS _ ((by with_reducible assumption : _ ∧ _ ∧ _ ∧ _ ∧ _ ∧ _ ∧ _ ∧ _ ∧ D5 w W w.heap.size [.bool (qn x), .slice A1 (digs (qt x)).length c1, .slice D1 (digs (qd x)).length d1, .bool (qn y), .slice A2 (digs (qt y)).length c2, .slice D2 (digs (qd y)).length d2] [.bool (qn u), .slice E1 (digs (qt u)).length e1, .slice F1 (digs (qd u)).length f1, .bool (qn v), .slice E2 (digs (qt v)).length e2, .slice F2 (digs (qd v)).length f2] g8 [.bool (qn n), .slice A8 (digs (qt n)).length c8, .slice M8 (digs (qd n)).length m8] _).2.2.2.2.2.2.2.2.nx (bal _ _))
        | (with_reducible refine conjS _ (D5.re (by with_reducible assumption : _ ∧ _ ∧ _ ∧ _ ∧ _ ∧ _ ∧ _ ∧ _ ∧ D5 w W w.heap.size [.bool (qn x), .slice A1 (digs (qt x)).length c1, .slice D1 (digs (qd x)).length d1, .bool (qn y), .slice A2 (digs (qt y)).length c2, .slice D2 (digs (qd y)).length d2] [.bool (qn u), .slice E1 (digs (qt u)).length e1, .slice F1 (digs (qd u)).length f1, .bool (qn v), .slice E2 (digs (qt v)).length e2, .slice F2 (digs (qd v)).length f2] g8 [.bool (qn n), .slice A8 (digs (qt n)).length c8, .slice M8 (digs (qd n)).length m8] _).2.2.2.2.2.2.2.2 ?_); assumption))
      (first
        | (go_at_call 67; have hh := (by with_reducible assumption : _ ∧ _ ∧ _ ∧ _ ∧ _ ∧ _ ∧ _ ∧ _ ∧ D5 w W w.heap.size [.bool (qn x), .slice A1 (digs (qt x)).length c1, .slice D1 (digs (qd x)).length d1, .bool (qn y), .slice A2 (digs (qt y)).length c2, .slice D2 (digs (qd y)).length d2] [.bool (qn u), .slice E1 (digs (qt u)).length e1, .slice F1 (digs (qd u)).length f1, .bool (qn v), .slice E2 (digs (qt v)).length e2, .slice F2 (digs (qd v)).length f2] g8 [.bool (qn n), .slice A8 (digs (qt n)).length c8, .slice M8 (digs (qd n)).length m8] _).2.2.2.2.2.2.2.2; refine (product_any _ _ n (ab u) _ (HN.st hh.2.2) (hub.st hh.1.2.2.2.2) hb1).mono ?_; rintro e w15 ⟨A15, c15, M15, m15, rfl, O15, P15, BX⟩; have H15 : RQ w15 w15.heap.size (.agg #[.bool (qn (n * ab u)), .slice A15 (digs (qt (n * ab u))).length c15, .slice M15 (digs (qd (n * ab u))).length m15]) (n * ab u) := ⟨A15, c15, M15, m15, rfl, O15.rw, P15.rw⟩; have z15 := And.intro (hh.nx BX).1.2.2.2.1.2 (And.intro (hh.nx BX).2.1.2 (hh.nx BX).2.2.size); (first | (have sg := sg.nx BX; have g0 := sg.cell 0; have g1 := sg.cell 1; have g2 := sg.cell 2; have h0 := sg.frozen 0; have h1 := sg.frozen 1; have h2 := sg.frozen 2) | (have sg := (SB.new _ [.bool false, .slice none 0 0, .slice none 0 0] 24).nx BX; have g0 := sg.cell 0; have g1 := sg.cell 1; have g2 := sg.cell 2; have h0 := sg.frozen 0; have h1 := sg.frozen 1; have h2 := sg.frozen 2) | (have sg := ((SB.new _ [.bool false, .slice none 0 0, .slice none 0 0] 24).nx (Below.drew (Below.refl _ _))).nx BX; have g0 := sg.cell 0; have g1 := sg.cell 1; have g2 := sg.cell 2; have h0 := sg.frozen 0; have h1 := sg.frozen 1; have h2 := sg.frozen 2) | skip))
        | (go_at_call 58; have hh := (by with_reducible assumption : _ ∧ _ ∧ _ ∧ _ ∧ _ ∧ _ ∧ _ ∧ _ ∧ D5 w W w.heap.size [.bool (qn x), .slice A1 (digs (qt x)).length c1, .slice D1 (digs (qd x)).length d1, .bool (qn y), .slice A2 (digs (qt y)).length c2, .slice D2 (digs (qd y)).length d2] [.bool (qn u), .slice E1 (digs (qt u)).length e1, .slice F1 (digs (qd u)).length f1, .bool (qn v), .slice E2 (digs (qt v)).length e2, .slice F2 (digs (qd v)).length f2] g8 [.bool (qn n), .slice A8 (digs (qt n)).length c8, .slice M8 (digs (qd n)).length m8] _).2.2.2.2.2.2.2.2; refine (minus_any (n * ab u) A15 M15 c15 m15 _).mono ?_; rintro e w16 ⟨rfl, BX⟩; have z16 := And.intro (hh.nx BX).1.2.2.2.1.2 (And.intro (hh.nx BX).2.1.2 (hh.nx BX).2.2.size); (first | with_reducible (have H15 := H15.st BX) | with_reducible (have H15 := (H15.st (bal _ _)).st BX)); (first | (have sg := sg.nx BX; have g0 := sg.cell 0; have g1 := sg.cell 1; have g2 := sg.cell 2; have h0 := sg.frozen 0; have h1 := sg.frozen 1; have h2 := sg.frozen 2) | (have sg := (SB.new _ [.bool false, .slice none 0 0, .slice none 0 0] 24).nx BX; have g0 := sg.cell 0; have g1 := sg.cell 1; have g2 := sg.cell 2; have h0 := sg.frozen 0; have h1 := sg.frozen 1; have h2 := sg.frozen 2) | (have sg := ((SB.new _ [.bool false, .slice none 0 0, .slice none 0 0] 24).nx (Below.drew (Below.refl _ _))).nx BX; have g0 := sg.cell 0; have g1 := sg.cell 1; have g2 := sg.cell 2; have h0 := sg.frozen 0; have h1 := sg.frozen 1; have h2 := sg.frozen 2) | skip))
        | ((first | have gl := sg.2 | skip); go_at_call 57; have hh := (by with_reducible assumption : _ ∧ _ ∧ _ ∧ _ ∧ _ ∧ _ ∧ _ ∧ _ ∧ D5 w W w.heap.size [.bool (qn x), .slice A1 (digs (qt x)).length c1, .slice D1 (digs (qd x)).length d1, .bool (qn y), .slice A2 (digs (qt y)).length c2, .slice D2 (digs (qd y)).length d2] [.bool (qn u), .slice E1 (digs (qt u)).length e1, .slice F1 (digs (qd u)).length f1, .bool (qn v), .slice E2 (digs (qt v)).length e2, .slice F2 (digs (qd v)).length f2] g8 [.bool (qn n), .slice A8 (digs (qt n)).length c8, .slice M8 (digs (qd n)).length m8] _).2.2.2.2.2.2.2.2; refine (hS _ _ _ (hx.st hh.1.2.2.2.2) (by first | with_reducible exact H15.neg | with_reducible exact (H15.st (bal _ _)).neg)).mono ?_; rintro e w17 ⟨A17, c17, M17, m17, rfl, O17, P17, BX⟩; have z17 := And.intro (hh.nx BX).1.2.2.2.1.2 (And.intro (hh.nx BX).2.1.2 (hh.nx BX).2.2.size); have hl := hh.2.1.2; have kk := hh.nx BX; (first | (have sg := sg.nx BX; have g0 := sg.cell 0; have g1 := sg.cell 1; have g2 := sg.cell 2; have h0 := sg.frozen 0; have h1 := sg.frozen 1; have h2 := sg.frozen 2) | (have sg := (SB.new _ [.bool false, .slice none 0 0, .slice none 0 0] 24).nx BX; have g0 := sg.cell 0; have g1 := sg.cell 1; have g2 := sg.cell 2; have h0 := sg.frozen 0; have h1 := sg.frozen 1; have h2 := sg.frozen 2) | (have sg := ((SB.new _ [.bool false, .slice none 0 0, .slice none 0 0] 24).nx (Below.drew (Below.refl _ _))).nx BX; have g0 := sg.cell 0; have g1 := sg.cell 1; have g2 := sg.cell 2; have h0 := sg.frozen 0; have h1 := sg.frozen 1; have h2 := sg.frozen 2) | skip); (first | (have gz := gtd (b := w.heap.size) (g := g8) (n := W.heap.size) sg (by first | assumption | (simp; omega)); have kw := Lib.hid (D5.wr3 kk gz (.bool (qn s)) (.slice A17 (digs (qt s)).length c17) (.slice M17 (digs (qd s)).length m17)); have kws := Lib.hid (conjS _ kw.out)) | skip)))
    all_goals
      go_wp2_with fail
      go_meet
      first
        | (have _hk := kw; exact ⟨_, A17, c17, M17, m17, rfl, SB.put3 sg _ _ _, kw.out, gz.2.1, (OW.put3 O17 gl _ _ _).base_le hl, (OW.put3 P17 gl _ _ _).base_le hl⟩)
        | (have _hk := kw; exact ⟨_, A17, c17, M17, m17, rfl, SB.put3 sg _ _ _, kw.out, gz.2.1, (OW.put3 O17 (by simp) _ _ _).base_le hl, (OW.put3 P17 (by simp) _ _ _).base_le hl⟩)
        | exact ⟨_, A17, c17, M17, m17, rfl, SB.new w17 _ _, kk.nx (bal _ _), z17.2.1, (O17.base_le hl).alloc _, (P17.base_le hl).alloc _⟩
  case rest =>
    obtain ⟨g9, A9, c9, M9, m9, rfl, s9, k8', hg9, O9, P9⟩ := hcut
    have k9 := k8'.1
    have s8 := k8'.2.1
    have O8 := O8.below k8'.2.2 (Nat.le_refl _)
    have P8 := P8.below k8'.2.2 (Nat.le_refl _)
    clear k8 k8' z8 conjS HN hb1 hb2 hx hub
    have m0 := k9.2.1.cell 0
    rcases Bool.eq_false_or_eq_true (qn u) with hsu | hsu
    · skip
      have hqq : q = -n := by
        have h := hq.out
        rw [hsu] at h
        rw [← h]
        exact if_pos rfl
      subst hqq
      clear hq
      rw [hsu] at m0
      clear hsu
      have i0 := s8.cell 0
      have i1 := s8.cell 1
      have i2 := s8.cell 2
      go_wp2_with fail
      refine (minus_any n A8 M8 c8 m8 _).mono ?_; rintro e w18 ⟨rfl, BX⟩
      have k9 := k9.nx BX
      have s8 := s8.nx BX
      have s9 := s9.nx BX
      clear i0 i1 i2
      have O8 := O8.below BX (Nat.le_refl _)
      have P8 := P8.below BX (Nat.le_refl _)
      have O9 := O9.below BX (Nat.le_refl _)
      have P9 := P9.below BX (Nat.le_refl _)
      clear BX
      obtain ⟨W2, hW2⟩ : ∃ W2, W2 = wr3 w18 g8 (.bool (qn (-n))) (.slice A8 (digs (qt (-n))).length c8) (.slice M8 (digs (qd (-n))).length m8) := ⟨_, rfl⟩
      have i0 := s8.cell 0
      have i1 := s8.cell 1
      have i2 := s8.cell 2
      have h0 := s8.frozen 0
      have h1 := s8.frozen 1
      have h2 := s8.frozen 2
      have k9' := k9.wr3 hg8 (.bool (qn (-n))) (.slice A8 (digs (qt (-n))).length c8) (.slice M8 (digs (qd (-n))).length m8)
      have s8' := s8.put3 (.bool (qn (-n))) (.slice A8 (digs (qt (-n))).length c8) (.slice M8 (digs (qd (-n))).length m8)
      have O8' := O8.put3 (b := g8) (Nat.lt_succ_self _) (.bool (qn (-n))) (.slice A8 (digs (qt (-n))).length c8) (.slice M8 (digs (qd (-n))).length m8)
      have P8' := P8.put3 (b := g8) (Nat.lt_succ_self _) (.bool (qn (-n))) (.slice A8 (digs (qt (-n))).length c8) (.slice M8 (digs (qd (-n))).length m8)
      have O9' := O9.put3 (b := g8) (Nat.lt_succ_self _) (.bool (qn (-n))) (.slice A8 (digs (qt (-n))).length c8) (.slice M8 (digs (qd (-n))).length m8)
      have P9' := P9.put3 (b := g8) (Nat.lt_succ_self _) (.bool (qn (-n))) (.slice A8 (digs (qt (-n))).length c8) (.slice M8 (digs (qd (-n))).length m8)
      have s9' := s9.wr3 (r := g8) (by omega) (.bool (qn (-n))) (.slice A8 (digs (qt (-n))).length c8) (.slice M8 (digs (qd (-n))).length m8)
      rw [← hW2] at k9' s8' O8' P8' O9' P9' s9'
      unfold wr3 at hW2
      clear k9 s8 O8 P8 O9 P9 s9
      go_upto_region 11 with fail
      rw [← hW2]
      clear hW2 i0 i1 i2 h0 h1 h2
      have k9 := k9'
      clear k9'
      have s8 := s8'
      clear s8'
      have O8 := O8'
      clear O8'
      have P8 := P8'
      clear P8'
      have O9 := O9'
      clear O9'
      have P9 := P9'
      clear P9'
      have s9 := s9'
      clear s9'
      rw [← q_neg_t n] at O8
      rw [← q_neg_d n] at P8
      go_wp2_with fail
      refine (hW _).mono ?_; rintro e w20 ⟨A10, c10, M10, m10, rfl, O10, P10, BX⟩
      have O10 := O10.base_le s8.2
      have P10 := P10.base_le s8.2
      have k9 := k9.nx BX
      have s8 := s8.nx BX
      have s9 := s9.nx BX
      have O8 := O8.below BX (Nat.le_refl _)
      have P8 := P8.below BX (Nat.le_refl _)
      have O9 := O9.below BX (Nat.le_refl _)
      have P9 := P9.below BX (Nat.le_refl _)
      have BX := bal w20 (.cells #[.bool (qn 0), .slice A10 (digs (qt 0)).length c10, .slice M10 (digs (qd 0)).length m10] 24)
      have s10 := SB.new w20 [.bool (qn 0), .slice A10 (digs (qt 0)).length c10, .slice M10 (digs (qd 0)).length m10] 24
      have h10 : w.heap.size + 3 < w20.heap.size := k9.2.2.2.1.2
      have k9 := k9.nx BX
      have s8 := s8.nx BX
      have s9 := s9.nx BX
      have O8 := O8.below BX (Nat.le_refl _)
      have P8 := P8.below BX (Nat.le_refl _)
      have O9 := O9.below BX (Nat.le_refl _)
      have P9 := P9.below BX (Nat.le_refl _)
      have O10 := O10.below BX (Nat.le_refl _)
      have P10 := P10.below BX (Nat.le_refl _)
      have i0 := s8.cell 0
      have i1 := s8.cell 1
      have i2 := s8.cell 2
      have j0 := s10.cell 0
      have j1 := s10.cell 1
      have j2 := s10.cell 2
      clear BX
      go_wp2_with fail
      refine (hF _ _ _ ⟨A8, c8, M8, m8, rfl, O8.rw, P8.rw⟩ ⟨A10, c10, M10, m10, rfl, O10.rw, P10.rw⟩).mono ?_; rintro e w21 ⟨A21, c21, D21, d21, A22, c22, D22, d22, rfl, O1, O2, O3, O4, BX⟩
      dsimp only at O1 O2 O3 O4
      have O1 := O1.base_le s8.2
      have O2 := O2.base_le s8.2
      have O3 := O3.base_le s8.2
      have O4 := O4.base_le s8.2
      clear i0 i1 i2 j0 j1 j2 s8 O8 P8
      have h21 := k9.2.2.2.1.2
      have k9 := k9.nx BX
      have s9 := s9.nx BX
      have s10 := s10.nx BX
      have O9 := O9.below BX (Nat.le_refl _)
      have P9 := P9.below BX (Nat.le_refl _)
      have O10 := O10.below BX (Nat.le_refl _)
      have P10 := P10.below BX (Nat.le_refl _)
      have hRC := k9.2.2.1
      have sq := hRC.put6 (.bool fr.s) (.slice A21 fr.a.length c21) (.slice D21 fr.b.length d21) (.bool fi.s) (.slice A22 fi.a.length c22) (.slice D22 fi.b.length d22)
      have k10 := k9.putq (.bool fr.s) (.slice A21 fr.a.length c21) (.slice D21 fr.b.length d21) (.bool fi.s) (.slice A22 fi.a.length c22) (.slice D22 fi.b.length d22)
      have O1 := O1.put6 (b := w.heap.size + 2) (by omega) (.bool fr.s) (.slice A21 fr.a.length c21) (.slice D21 fr.b.length d21) (.bool fi.s) (.slice A22 fi.a.length c22) (.slice D22 fi.b.length d22)
      have O2 := O2.put6 (b := w.heap.size + 2) (by omega) (.bool fr.s) (.slice A21 fr.a.length c21) (.slice D21 fr.b.length d21) (.bool fi.s) (.slice A22 fi.a.length c22) (.slice D22 fi.b.length d22)
      have O3 := O3.put6 (b := w.heap.size + 2) (by omega) (.bool fr.s) (.slice A21 fr.a.length c21) (.slice D21 fr.b.length d21) (.bool fi.s) (.slice A22 fi.a.length c22) (.slice D22 fi.b.length d22)
      have O4 := O4.put6 (b := w.heap.size + 2) (by omega) (.bool fr.s) (.slice A21 fr.a.length c21) (.slice D21 fr.b.length d21) (.bool fi.s) (.slice A22 fi.a.length c22) (.slice D22 fi.b.length d22)
      have O9 := O9.put6 (b := w.heap.size + 2) (by omega) (.bool fr.s) (.slice A21 fr.a.length c21) (.slice D21 fr.b.length d21) (.bool fi.s) (.slice A22 fi.a.length c22) (.slice D22 fi.b.length d22)
      have P9 := P9.put6 (b := w.heap.size + 2) (by omega) (.bool fr.s) (.slice A21 fr.a.length c21) (.slice D21 fr.b.length d21) (.bool fi.s) (.slice A22 fi.a.length c22) (.slice D22 fi.b.length d22)
      have O10 := O10.put6 (b := w.heap.size + 2) (by omega) (.bool fr.s) (.slice A21 fr.a.length c21) (.slice D21 fr.b.length d21) (.bool fi.s) (.slice A22 fi.a.length c22) (.slice D22 fi.b.length d22)
      have P10 := P10.put6 (b := w.heap.size + 2) (by omega) (.bool fr.s) (.slice A21 fr.a.length c21) (.slice D21 fr.b.length d21) (.bool fi.s) (.slice A22 fi.a.length c22) (.slice D22 fi.b.length d22)
      have s9 := s9.wr6 (r := w.heap.size + 2) (by omega) (.bool fr.s) (.slice A21 fr.a.length c21) (.slice D21 fr.b.length d21) (.bool fi.s) (.slice A22 fi.a.length c22) (.slice D22 fi.b.length d22)
      have s10 := s10.wr6 (r := w.heap.size + 2) (by omega) (.bool fr.s) (.slice A21 fr.a.length c21) (.slice D21 fr.b.length d21) (.bool fi.s) (.slice A22 fi.a.length c22) (.slice D22 fi.b.length d22)
      obtain ⟨w22, h22⟩ : ∃ w', w' = wr6 w21 (w.heap.size + 2) (.bool fr.s) (.slice A21 fr.a.length c21) (.slice D21 fr.b.length d21) (.bool fi.s) (.slice A22 fi.a.length c22) (.slice D22 fi.b.length d22) := ⟨_, rfl⟩
      rw [← h22] at sq k10 O1 O2 O3 O4 O9 P9 O10 P10 s9 s10
      go_upto_region 13 with ((refine wp_st6 rfl (.tmp 4) (.tmp 59) rfl _ rfl _ _ _ _ _ _ rfl hRC rfl rfl rfl rfl rfl rfl ?_; rw [← h22]; clear h22))
      clear hRC BX k9
      by_cases hf : fk = 0
      rotate_left
      · have hf' : (fk == 0) = false := beq_eq_false_iff_ne.2 hf
        clear sq s9 s10 O1 O2 O3 O4 O9 P9 O10 P10
        have hR1 := k10.2.2.1
        have ky := k10.putq (.bool false) (.slice none 0 0) (.slice none 0 0) (.bool false) (.slice none 0 0) (.slice none 0 0)
        have sq := hR1.put6 (.bool false) (.slice none 0 0) (.slice none 0 0) (.bool false) (.slice none 0 0) (.slice none 0 0)
        obtain ⟨W1, hW1⟩ : ∃ W1, W1 = wr6 w22 (w.heap.size + 2) (.bool false) (.slice none 0 0) (.slice none 0 0) (.bool false) (.slice none 0 0) (.slice none 0 0) := ⟨_, rfl⟩
        rw [← hW1] at ky sq
        have hR2 := ky.2.2.2.1
        go_wp2_with ((refine wp_st6 rfl (.tmp 4) (.tmp 63) rfl _ rfl _ _ _ _ _ _ rfl hR1 rfl rfl rfl rfl rfl rfl ?_; rw [← hW1]; clear hW1; refine wp_st6 rfl (.tmp 5) (.tmp 64) rfl _ rfl _ _ _ _ _ _ rfl hR2 rfl rfl rfl rfl rfl rfl ?_))
        have kz := ky.putr (.bool false) (.slice none 0 0) (.slice none 0 0) (.bool false) (.slice none 0 0) (.slice none 0 0)
        have sq := sq.wr6 (r := w.heap.size + 3) (by omega) (.bool false) (.slice none 0 0) (.slice none 0 0) (.bool false) (.slice none 0 0) (.slice none 0 0)
        have sr := hR2.put6 (.bool false) (.slice none 0 0) (.slice none 0 0) (.bool false) (.slice none 0 0) (.slice none 0 0)
        have q0' := sq.cell 0
        have q1' := sq.cell 1
        have q2' := sq.cell 2
        have q3' := sq.cell 3
        have q4' := sq.cell 4
        have q5' := sq.cell 5
        have r0' := sr.cell 0
        have r1' := sr.cell 1
        have r2' := sr.cell 2
        have r3' := sr.cell 3
        have r4' := sr.cell 4
        have r5' := sr.cell 5
        refine bodyPost_ret (v := .tuple #[.agg #[.bool false, .slice none 0 0, .slice none 0 0, .bool false, .slice none 0 0, .slice none 0 0], .agg #[.bool false, .slice none 0 0, .slice none 0 0, .bool false, .slice none 0 0, .slice none 0 0], .int .i64 fk]) (by simp [results, q0', q1', q2', q3', q4', q5', r0', r1', r2', r3', r4', r5', go_sem]) rfl ?_
        rw [show dmG (fr, fi, fk) (gr, gi, gk) = dm0 fk from by unfold dmG; rw [if_neg hf]]
        exact retNN_nil fk kz.2.2.2.2
      subst hf
      have i0 := s9.cell 0
      have i1 := s9.cell 1
      have i2 := s9.cell 2
      have j0 := s10.cell 0
      have j1 := s10.cell 1
      have j2 := s10.cell 2
      go_wp2_with fail
      refine (hG _ _ _ ⟨A9, c9, M9, m9, rfl, O9.rw, P9.rw⟩ ⟨A10, c10, M10, m10, rfl, O10.rw, P10.rw⟩).mono ?_; rintro e w23 ⟨A23, c23, D23, d23, A24, c24, D24, d24, rfl, Q1, Q2, Q3, Q4, BX⟩
      dsimp only at Q1 Q2 Q3 Q4
      have hlt := Nat.lt_trans hg9 s9.2
      have Q1 := Q1.base_le hlt
      have Q2 := Q2.base_le hlt
      have Q3 := Q3.base_le hlt
      have Q4 := Q4.base_le hlt
      clear hlt
      have h23 := k10.2.2.2.1.2
      clear i0 i1 i2 j0 j1 j2 s9 s10 O9 P9 O10 P10
      have k10 := k10.nx BX
      have sq := sq.nx BX
      have O1 := O1.below BX (Nat.le_refl _)
      have O2 := O2.below BX (Nat.le_refl _)
      have O3 := O3.below BX (Nat.le_refl _)
      have O4 := O4.below BX (Nat.le_refl _)
      have hRC := k10.2.2.2.1
      have sr := hRC.put6 (.bool gr.s) (.slice A23 gr.a.length c23) (.slice D23 gr.b.length d23) (.bool gi.s) (.slice A24 gi.a.length c24) (.slice D24 gi.b.length d24)
      have k11 := k10.putr (.bool gr.s) (.slice A23 gr.a.length c23) (.slice D23 gr.b.length d23) (.bool gi.s) (.slice A24 gi.a.length c24) (.slice D24 gi.b.length d24)
      have sq := sq.wr6 (r := w.heap.size + 3) (by omega) (.bool gr.s) (.slice A23 gr.a.length c23) (.slice D23 gr.b.length d23) (.bool gi.s) (.slice A24 gi.a.length c24) (.slice D24 gi.b.length d24)
      have O1 := O1.put6 (b := w.heap.size + 3) (by omega) (.bool gr.s) (.slice A23 gr.a.length c23) (.slice D23 gr.b.length d23) (.bool gi.s) (.slice A24 gi.a.length c24) (.slice D24 gi.b.length d24)
      have O2 := O2.put6 (b := w.heap.size + 3) (by omega) (.bool gr.s) (.slice A23 gr.a.length c23) (.slice D23 gr.b.length d23) (.bool gi.s) (.slice A24 gi.a.length c24) (.slice D24 gi.b.length d24)
      have O3 := O3.put6 (b := w.heap.size + 3) (by omega) (.bool gr.s) (.slice A23 gr.a.length c23) (.slice D23 gr.b.length d23) (.bool gi.s) (.slice A24 gi.a.length c24) (.slice D24 gi.b.length d24)
      have O4 := O4.put6 (b := w.heap.size + 3) (by omega) (.bool gr.s) (.slice A23 gr.a.length c23) (.slice D23 gr.b.length d23) (.bool gi.s) (.slice A24 gi.a.length c24) (.slice D24 gi.b.length d24)
      have Q1 := Q1.put6 (b := w.heap.size + 3) (by omega) (.bool gr.s) (.slice A23 gr.a.length c23) (.slice D23 gr.b.length d23) (.bool gi.s) (.slice A24 gi.a.length c24) (.slice D24 gi.b.length d24)
      have Q2 := Q2.put6 (b := w.heap.size + 3) (by omega) (.bool gr.s) (.slice A23 gr.a.length c23) (.slice D23 gr.b.length d23) (.bool gi.s) (.slice A24 gi.a.length c24) (.slice D24 gi.b.length d24)
      have Q3 := Q3.put6 (b := w.heap.size + 3) (by omega) (.bool gr.s) (.slice A23 gr.a.length c23) (.slice D23 gr.b.length d23) (.bool gi.s) (.slice A24 gi.a.length c24) (.slice D24 gi.b.length d24)
      have Q4 := Q4.put6 (b := w.heap.size + 3) (by omega) (.bool gr.s) (.slice A23 gr.a.length c23) (.slice D23 gr.b.length d23) (.bool gi.s) (.slice A24 gi.a.length c24) (.slice D24 gi.b.length d24)
      obtain ⟨w24, h24⟩ : ∃ w', w' = wr6 w23 (w.heap.size + 3) (.bool gr.s) (.slice A23 gr.a.length c23) (.slice D23 gr.b.length d23) (.bool gi.s) (.slice A24 gi.a.length c24) (.slice D24 gi.b.length d24) := ⟨_, rfl⟩
      rw [← h24] at sq sr k11 O1 O2 O3 O4 Q1 Q2 Q3 Q4
      go_upto_region 16 with ((refine wp_st6 rfl (.tmp 5) (.tmp 70) rfl _ rfl _ _ _ _ _ _ rfl hRC rfl rfl rfl rfl rfl rfl ?_; rw [← h24]; clear h24))
      clear hRC BX k10
      by_cases hf : gk = 0
      rotate_left
      · have hf' : (gk == 0) = false := beq_eq_false_iff_ne.2 hf
        clear sq sr O1 O2 O3 O4 Q1 Q2 Q3 Q4
        have hR1 := k11.2.2.1
        have ky := k11.putq (.bool false) (.slice none 0 0) (.slice none 0 0) (.bool false) (.slice none 0 0) (.slice none 0 0)
        have sq := hR1.put6 (.bool false) (.slice none 0 0) (.slice none 0 0) (.bool false) (.slice none 0 0) (.slice none 0 0)
        obtain ⟨W1, hW1⟩ : ∃ W1, W1 = wr6 w24 (w.heap.size + 2) (.bool false) (.slice none 0 0) (.slice none 0 0) (.bool false) (.slice none 0 0) (.slice none 0 0) := ⟨_, rfl⟩
        rw [← hW1] at ky sq
        have hR2 := ky.2.2.2.1
        go_wp2_with ((refine wp_st6 rfl (.tmp 4) (.tmp 74) rfl _ rfl _ _ _ _ _ _ rfl hR1 rfl rfl rfl rfl rfl rfl ?_; rw [← hW1]; clear hW1; refine wp_st6 rfl (.tmp 5) (.tmp 75) rfl _ rfl _ _ _ _ _ _ rfl hR2 rfl rfl rfl rfl rfl rfl ?_))
        have kz := ky.putr (.bool false) (.slice none 0 0) (.slice none 0 0) (.bool false) (.slice none 0 0) (.slice none 0 0)
        have sq := sq.wr6 (r := w.heap.size + 3) (by omega) (.bool false) (.slice none 0 0) (.slice none 0 0) (.bool false) (.slice none 0 0) (.slice none 0 0)
        have sr := hR2.put6 (.bool false) (.slice none 0 0) (.slice none 0 0) (.bool false) (.slice none 0 0) (.slice none 0 0)
        have q0' := sq.cell 0
        have q1' := sq.cell 1
        have q2' := sq.cell 2
        have q3' := sq.cell 3
        have q4' := sq.cell 4
        have q5' := sq.cell 5
        have r0' := sr.cell 0
        have r1' := sr.cell 1
        have r2' := sr.cell 2
        have r3' := sr.cell 3
        have r4' := sr.cell 4
        have r5' := sr.cell 5
        refine bodyPost_ret (v := .tuple #[.agg #[.bool false, .slice none 0 0, .slice none 0 0, .bool false, .slice none 0 0, .slice none 0 0], .agg #[.bool false, .slice none 0 0, .slice none 0 0, .bool false, .slice none 0 0, .slice none 0 0], .int .i64 gk]) (by simp [results, q0', q1', q2', q3', q4', q5', r0', r1', r2', r3', r4', r5', go_sem]) rfl ?_
        rw [show dmG (fr, fi, 0) (gr, gi, gk) = dm0 gk from by unfold dmG; rw [if_pos rfl, if_neg hf]]
        exact retNN_nil gk kz.2.2.2.2
      subst hf
      have k12 : E6 w w.heap.size [.bool fr.s, .slice A21 fr.a.length c21, .slice D21 fr.b.length d21, .bool fi.s, .slice A22 fi.a.length c22, .slice D22 fi.b.length d22] [.bool gr.s, .slice A23 gr.a.length c23, .slice D23 gr.b.length d23, .bool gi.s, .slice A24 gi.a.length c24, .slice D24 gi.b.length d24] (g8 + 1) [(A21, c21, fr.a), (D21, d21, fr.b), (A22, c22, fi.a), (D22, d22, fi.b), (A23, c23, gr.a), (D23, d23, gr.b), (A24, c24, gi.a), (D24, d24, gi.b)] w24 := ⟨sq, sr, k11.2.2.2.2, fun t ht => by
        simp only [List.mem_cons, List.not_mem_nil, or_false] at ht
        rcases ht with rfl | rfl | rfl | rfl | rfl | rfl | rfl | rfl
        · exact O1
        · exact O2
        · exact O3
        · exact O4
        · exact Q1
        · exact Q2
        · exact Q3
        · exact Q4⟩
      have conjE : ∀ w', E6 w w.heap.size [.bool fr.s, .slice A21 fr.a.length c21, .slice D21 fr.b.length d21, .bool fi.s, .slice A22 fi.a.length c22, .slice D22 fi.b.length d22] [.bool gr.s, .slice A23 gr.a.length c23, .slice D23 gr.b.length d23, .bool gi.s, .slice A24 gi.a.length c24, .slice D24 gi.b.length d24] (g8 + 1) [(A21, c21, fr.a), (D21, d21, fr.b), (A22, c22, fi.a), (D22, d22, fi.b), (A23, c23, gr.a), (D23, d23, gr.b), (A24, c24, gi.a), (D24, d24, gi.b)] w' → w'.cell? ⟨w.heap.size + 2, 0, none⟩ = some (.bool fr.s) ∧ w'.cell? ⟨w.heap.size + 2, 1, none⟩ = some (.slice A21 fr.a.length c21) ∧ w'.cell? ⟨w.heap.size + 2, 2, none⟩ = some (.slice D21 fr.b.length d21) ∧ w'.cell? ⟨w.heap.size + 2, 3, none⟩ = some (.bool fi.s) ∧ w'.cell? ⟨w.heap.size + 2, 4, none⟩ = some (.slice A22 fi.a.length c22) ∧ w'.cell? ⟨w.heap.size + 2, 5, none⟩ = some (.slice D22 fi.b.length d22) ∧ w'.cell? ⟨w.heap.size + 3, 0, none⟩ = some (.bool gr.s) ∧ w'.cell? ⟨w.heap.size + 3, 1, none⟩ = some (.slice A23 gr.a.length c23) ∧ w'.cell? ⟨w.heap.size + 3, 2, none⟩ = some (.slice D23 gr.b.length d23) ∧ w'.cell? ⟨w.heap.size + 3, 3, none⟩ = some (.bool gi.s) ∧ w'.cell? ⟨w.heap.size + 3, 4, none⟩ = some (.slice A24 gi.a.length c24) ∧ w'.cell? ⟨w.heap.size + 3, 5, none⟩ = some (.slice D24 gi.b.length d24) ∧ w'.frozen? ⟨w.heap.size + 2, 0, none⟩ = false ∧ w'.frozen? ⟨w.heap.size + 2, 1, none⟩ = false ∧ w'.frozen? ⟨w.heap.size + 2, 2, none⟩ = false ∧ w'.frozen? ⟨w.heap.size + 2, 3, none⟩ = false ∧ w'.frozen? ⟨w.heap.size + 2, 4, none⟩ = false ∧ w'.frozen? ⟨w.heap.size + 2, 5, none⟩ = false ∧ w'.frozen? ⟨w.heap.size + 3, 0, none⟩ = false ∧ w'.frozen? ⟨w.heap.size + 3, 1, none⟩ = false ∧ w'.frozen? ⟨w.heap.size + 3, 2, none⟩ = false ∧ w'.frozen? ⟨w.heap.size + 3, 3, none⟩ = false ∧ w'.frozen? ⟨w.heap.size + 3, 4, none⟩ = false ∧ w'.frozen? ⟨w.heap.size + 3, 5, none⟩ = false ∧ E6 w w.heap.size [.bool fr.s, .slice A21 fr.a.length c21, .slice D21 fr.b.length d21, .bool fi.s, .slice A22 fi.a.length c22, .slice D22 fi.b.length d22] [.bool gr.s, .slice A23 gr.a.length c23, .slice D23 gr.b.length d23, .bool gi.s, .slice A24 gi.a.length c24, .slice D24 gi.b.length d24] (g8 + 1) [(A21, c21, fr.a), (D21, d21, fr.b), (A22, c22, fi.a), (D22, d22, fi.b), (A23, c23, gr.a), (D23, d23, gr.b), (A24, c24, gi.a), (D24, d24, gi.b)] w' := fun w' h => ⟨h.1.cell 0, h.1.cell 1, h.1.cell 2, h.1.cell 3, h.1.cell 4, h.1.cell 5, h.2.1.cell 0, h.2.1.cell 1, h.2.1.cell 2, h.2.1.cell 3, h.2.1.cell 4, h.2.1.cell 5, h.1.frozen 0, h.1.frozen 1, h.1.frozen 2, h.1.frozen 3, h.1.frozen 4, h.1.frozen 5, h.2.1.frozen 0, h.2.1.frozen 1, h.2.1.frozen 2, h.2.1.frozen 3, h.2.1.frozen 4, h.2.1.frozen 5, h⟩
      have hg9' : w.heap.size + 3 < g8 + 1 := by omega
      clear sq sr k11 O1 O2 O3 O4 Q1 Q2 Q3 Q4
      go_upto_region 18 with fail
      have k12d := conjE _ k12.dr
      have e0_ := k12.1.cell 0
      have e1_ := k12.1.cell 1
      have e2_ := k12.1.cell 2
      have e3_ := k12.1.cell 3
      have e4_ := k12.1.cell 4
      have e5_ := k12.1.cell 5
      have l0_ := k12.2.1.cell 0
      have l1_ := k12.2.1.cell 1
      have l2_ := k12.2.1.cell 2
      have l3_ := k12.2.1.cell 3
      have l4_ := k12.2.1.cell 4
      have l5_ := k12.2.1.cell 5
      have ef0_ := k12.1.frozen 0
      have ef1_ := k12.1.frozen 1
      have ef2_ := k12.1.frozen 2
      have ef3_ := k12.1.frozen 3
      have ef4_ := k12.1.frozen 4
      have ef5_ := k12.1.frozen 5
      have lf0_ := k12.2.1.frozen 0
      have lf1_ := k12.2.1.frozen 1
      have lf2_ := k12.2.1.frozen 2
      have lf3_ := k12.2.1.frozen 3
      have lf4_ := k12.2.1.frozen 4
      have lf5_ := k12.2.1.frozen 5
      clear k12
      go_region_held3 (fun w' => w'.cell? ⟨w.heap.size + 2, 0, none⟩ = some (.bool fr.s) ∧ w'.cell? ⟨w.heap.size + 2, 1, none⟩ = some (.slice A21 fr.a.length c21) ∧ w'.cell? ⟨w.heap.size + 2, 2, none⟩ = some (.slice D21 fr.b.length d21) ∧ w'.cell? ⟨w.heap.size + 2, 3, none⟩ = some (.bool fi.s) ∧ w'.cell? ⟨w.heap.size + 2, 4, none⟩ = some (.slice A22 fi.a.length c22) ∧ w'.cell? ⟨w.heap.size + 2, 5, none⟩ = some (.slice D22 fi.b.length d22) ∧ w'.cell? ⟨w.heap.size + 3, 0, none⟩ = some (.bool gr.s) ∧ w'.cell? ⟨w.heap.size + 3, 1, none⟩ = some (.slice A23 gr.a.length c23) ∧ w'.cell? ⟨w.heap.size + 3, 2, none⟩ = some (.slice D23 gr.b.length d23) ∧ w'.cell? ⟨w.heap.size + 3, 3, none⟩ = some (.bool gi.s) ∧ w'.cell? ⟨w.heap.size + 3, 4, none⟩ = some (.slice A24 gi.a.length c24) ∧ w'.cell? ⟨w.heap.size + 3, 5, none⟩ = some (.slice D24 gi.b.length d24) ∧ w'.frozen? ⟨w.heap.size + 2, 0, none⟩ = false ∧ w'.frozen? ⟨w.heap.size + 2, 1, none⟩ = false ∧ w'.frozen? ⟨w.heap.size + 2, 2, none⟩ = false ∧ w'.frozen? ⟨w.heap.size + 2, 3, none⟩ = false ∧ w'.frozen? ⟨w.heap.size + 2, 4, none⟩ = false ∧ w'.frozen? ⟨w.heap.size + 2, 5, none⟩ = false ∧ w'.frozen? ⟨w.heap.size + 3, 0, none⟩ = false ∧ w'.frozen? ⟨w.heap.size + 3, 1, none⟩ = false ∧ w'.frozen? ⟨w.heap.size + 3, 2, none⟩ = false ∧ w'.frozen? ⟨w.heap.size + 3, 3, none⟩ = false ∧ w'.frozen? ⟨w.heap.size + 3, 4, none⟩ = false ∧ w'.frozen? ⟨w.heap.size + 3, 5, none⟩ = false ∧ E6 w w.heap.size [.bool fr.s, .slice A21 fr.a.length c21, .slice D21 fr.b.length d21, .bool fi.s, .slice A22 fi.a.length c22, .slice D22 fi.b.length d22] [.bool gr.s, .slice A23 gr.a.length c23, .slice D23 gr.b.length d23, .bool gi.s, .slice A24 gi.a.length c24, .slice D24 gi.b.length d24] (g8 + 1) [(A21, c21, fr.a), (D21, d21, fr.b), (A22, c22, fi.a), (D22, d22, fi.b), (A23, c23, gr.a), (D23, d23, gr.b), (A24, c24, gi.a), (D24, d24, gi.b)] w')
        (first
          | with_reducible exact k12d
          | with_reducible exact conjE _ (E6.putq (by with_reducible assumption : _ ∧ _ ∧ _ ∧ _ ∧ _ ∧ _ ∧ _ ∧ _ ∧ _ ∧ _ ∧ _ ∧ _ ∧ _ ∧ _ ∧ _ ∧ _ ∧ _ ∧ _ ∧ _ ∧ _ ∧ _ ∧ _ ∧ _ ∧ _ ∧ E6 w w.heap.size [.bool fr.s, .slice A21 fr.a.length c21, .slice D21 fr.b.length d21, .bool fi.s, .slice A22 fi.a.length c22, .slice D22 fi.b.length d22] [.bool gr.s, .slice A23 gr.a.length c23, .slice D23 gr.b.length d23, .bool gi.s, .slice A24 gi.a.length c24, .slice D24 gi.b.length d24] (g8 + 1) [(A21, c21, fr.a), (D21, d21, fr.b), (A22, c22, fi.a), (D22, d22, fi.b), (A23, c23, gr.a), (D23, d23, gr.b), (A24, c24, gi.a), (D24, d24, gi.b)] _).2.2.2.2.2.2.2.2.2.2.2.2.2.2.2.2.2.2.2.2.2.2.2.2 hg9')
          | with_reducible exact conjE _ (E6.putr (by with_reducible assumption : _ ∧ _ ∧ _ ∧ _ ∧ _ ∧ _ ∧ _ ∧ _ ∧ _ ∧ _ ∧ _ ∧ _ ∧ _ ∧ _ ∧ _ ∧ _ ∧ _ ∧ _ ∧ _ ∧ _ ∧ _ ∧ _ ∧ _ ∧ _ ∧ E6 w w.heap.size [.bool fr.s, .slice A21 fr.a.length c21, .slice D21 fr.b.length d21, .bool fi.s, .slice A22 fi.a.length c22, .slice D22 fi.b.length d22] [.bool gr.s, .slice A23 gr.a.length c23, .slice D23 gr.b.length d23, .bool gi.s, .slice A24 gi.a.length c24, .slice D24 gi.b.length d24] (g8 + 1) [(A21, c21, fr.a), (D21, d21, fr.b), (A22, c22, fi.a), (D22, d22, fi.b), (A23, c23, gr.a), (D23, d23, gr.b), (A24, c24, gi.a), (D24, d24, gi.b)] _).2.2.2.2.2.2.2.2.2.2.2.2.2.2.2.2.2.2.2.2.2.2.2.2 hg9'))
        (first | fail)
      all_goals
        have hE := (by with_reducible assumption : _ ∧ _ ∧ _ ∧ _ ∧ _ ∧ _ ∧ _ ∧ _ ∧ _ ∧ _ ∧ _ ∧ _ ∧ _ ∧ _ ∧ _ ∧ _ ∧ _ ∧ _ ∧ _ ∧ _ ∧ _ ∧ _ ∧ _ ∧ _ ∧ E6 w w.heap.size [.bool fr.s, .slice A21 fr.a.length c21, .slice D21 fr.b.length d21, .bool fi.s, .slice A22 fi.a.length c22, .slice D22 fi.b.length d22] [.bool gr.s, .slice A23 gr.a.length c23, .slice D23 gr.b.length d23, .bool gi.s, .slice A24 gi.a.length c24, .slice D24 gi.b.length d24] (g8 + 1) [(A21, c21, fr.a), (D21, d21, fr.b), (A22, c22, fi.a), (D22, d22, fi.b), (A23, c23, gr.a), (D23, d23, gr.b), (A24, c24, gi.a), (D24, d24, gi.b)] _).2.2.2.2.2.2.2.2.2.2.2.2.2.2.2.2.2.2.2.2.2.2.2.2
        have q0' := hE.1.cell 0
        have q1' := hE.1.cell 1
        have q2' := hE.1.cell 2
        have q3' := hE.1.cell 3
        have q4' := hE.1.cell 4
        have q5' := hE.1.cell 5
        have r0' := hE.2.1.cell 0
        have r1' := hE.2.1.cell 1
        have r2' := hE.2.1.cell 2
        have r3' := hE.2.1.cell 3
        have r4' := hE.2.1.cell 4
        have r5' := hE.2.1.cell 5
        clear conjE k12d
        go_wp2_with fail
        refine bodyPost_ret (v := .tuple #[.agg #[.bool fr.s, .slice A21 fr.a.length c21, .slice D21 fr.b.length d21, .bool fi.s, .slice A22 fi.a.length c22, .slice D22 fi.b.length d22], .agg #[.bool gr.s, .slice A23 gr.a.length c23, .slice D23 gr.b.length d23, .bool gi.s, .slice A24 gi.a.length c24, .slice D24 gi.b.length d24], .int .i64 0]) (by simp [results, q0', q1', q2', q3', q4', q5', r0', r1', r2', r3', r4', r5', go_sem]) rfl ?_
        have hle : w.heap.size ≤ g8 + 1 := by omega
        have hO : ∀ t ∈ [(A21, c21, fr.a), (D21, d21, fr.b), (A22, c22, fi.a), (D22, d22, fi.b), (A23, c23, gr.a), (D23, d23, gr.b), (A24, c24, gi.a), (D24, d24, gi.b)], OW _ w.heap.size t.1 t.2.1 t.2.2 := fun t ht => (hE.2.2.2 t ht).base_le hle
        rw [show dmG (fr, fi, 0) (gr, gi, 0) = (fr, fi, gr, gi, 0) from by unfold dmG; rw [if_pos rfl, if_pos rfl]]
        exact ⟨A21, c21, D21, d21, A22, c22, D22, d22, A23, c23, D23, d23, A24, c24, D24, d24, rfl, ⟨hO (A21, c21, fr.a) (by simp), hO (D21, d21, fr.b) (by simp), hO (A22, c22, fi.a) (by simp), hO (D22, d22, fi.b) (by simp)⟩, ⟨hO (A23, c23, gr.a) (by simp), hO (D23, d23, gr.b) (by simp), hO (A24, c24, gi.a) (by simp), hO (D24, d24, gi.b) (by simp)⟩, hE.2.2.1⟩
    · skip
      have hqq : q = n := by
        have h := hq.out
        rw [hsu] at h
        rw [← h]
        exact if_neg (by simp)
      subst hqq
      clear hq
      rw [hsu] at m0
      clear hsu
      go_wp2_with fail
      refine (hW _).mono ?_; rintro e w20 ⟨A10, c10, M10, m10, rfl, O10, P10, BX⟩
      have O10 := O10.base_le s8.2
      have P10 := P10.base_le s8.2
      have k9 := k9.nx BX
      have s8 := s8.nx BX
      have s9 := s9.nx BX
      have O8 := O8.below BX (Nat.le_refl _)
      have P8 := P8.below BX (Nat.le_refl _)
      have O9 := O9.below BX (Nat.le_refl _)
      have P9 := P9.below BX (Nat.le_refl _)
      have BX := bal w20 (.cells #[.bool (qn 0), .slice A10 (digs (qt 0)).length c10, .slice M10 (digs (qd 0)).length m10] 24)
      have s10 := SB.new w20 [.bool (qn 0), .slice A10 (digs (qt 0)).length c10, .slice M10 (digs (qd 0)).length m10] 24
      have h10 : w.heap.size + 3 < w20.heap.size := k9.2.2.2.1.2
      have k9 := k9.nx BX
      have s8 := s8.nx BX
      have s9 := s9.nx BX
      have O8 := O8.below BX (Nat.le_refl _)
      have P8 := P8.below BX (Nat.le_refl _)
      have O9 := O9.below BX (Nat.le_refl _)
      have P9 := P9.below BX (Nat.le_refl _)
      have O10 := O10.below BX (Nat.le_refl _)
      have P10 := P10.below BX (Nat.le_refl _)
      have i0 := s8.cell 0
      have i1 := s8.cell 1
      have i2 := s8.cell 2
      have j0 := s10.cell 0
      have j1 := s10.cell 1
      have j2 := s10.cell 2
      clear BX
      go_wp2_with fail
      refine (hF _ _ _ ⟨A8, c8, M8, m8, rfl, O8.rw, P8.rw⟩ ⟨A10, c10, M10, m10, rfl, O10.rw, P10.rw⟩).mono ?_; rintro e w21 ⟨A21, c21, D21, d21, A22, c22, D22, d22, rfl, O1, O2, O3, O4, BX⟩
      dsimp only at O1 O2 O3 O4
      have O1 := O1.base_le s8.2
      have O2 := O2.base_le s8.2
      have O3 := O3.base_le s8.2
      have O4 := O4.base_le s8.2
      clear i0 i1 i2 j0 j1 j2 s8 O8 P8
      have h21 := k9.2.2.2.1.2
      have k9 := k9.nx BX
      have s9 := s9.nx BX
      have s10 := s10.nx BX
      have O9 := O9.below BX (Nat.le_refl _)
      have P9 := P9.below BX (Nat.le_refl _)
      have O10 := O10.below BX (Nat.le_refl _)
      have P10 := P10.below BX (Nat.le_refl _)
      have hRC := k9.2.2.1
      have sq := hRC.put6 (.bool fr.s) (.slice A21 fr.a.length c21) (.slice D21 fr.b.length d21) (.bool fi.s) (.slice A22 fi.a.length c22) (.slice D22 fi.b.length d22)
      have k10 := k9.putq (.bool fr.s) (.slice A21 fr.a.length c21) (.slice D21 fr.b.length d21) (.bool fi.s) (.slice A22 fi.a.length c22) (.slice D22 fi.b.length d22)
      have O1 := O1.put6 (b := w.heap.size + 2) (by omega) (.bool fr.s) (.slice A21 fr.a.length c21) (.slice D21 fr.b.length d21) (.bool fi.s) (.slice A22 fi.a.length c22) (.slice D22 fi.b.length d22)
      have O2 := O2.put6 (b := w.heap.size + 2) (by omega) (.bool fr.s) (.slice A21 fr.a.length c21) (.slice D21 fr.b.length d21) (.bool fi.s) (.slice A22 fi.a.length c22) (.slice D22 fi.b.length d22)
      have O3 := O3.put6 (b := w.heap.size + 2) (by omega) (.bool fr.s) (.slice A21 fr.a.length c21) (.slice D21 fr.b.length d21) (.bool fi.s) (.slice A22 fi.a.length c22) (.slice D22 fi.b.length d22)
      have O4 := O4.put6 (b := w.heap.size + 2) (by omega) (.bool fr.s) (.slice A21 fr.a.length c21) (.slice D21 fr.b.length d21) (.bool fi.s) (.slice A22 fi.a.length c22) (.slice D22 fi.b.length d22)
      have O9 := O9.put6 (b := w.heap.size + 2) (by omega) (.bool fr.s) (.slice A21 fr.a.length c21) (.slice D21 fr.b.length d21) (.bool fi.s) (.slice A22 fi.a.length c22) (.slice D22 fi.b.length d22)
      have P9 := P9.put6 (b := w.heap.size + 2) (by omega) (.bool fr.s) (.slice A21 fr.a.length c21) (.slice D21 fr.b.length d21) (.bool fi.s) (.slice A22 fi.a.length c22) (.slice D22 fi.b.length d22)
      have O10 := O10.put6 (b := w.heap.size + 2) (by omega) (.bool fr.s) (.slice A21 fr.a.length c21) (.slice D21 fr.b.length d21) (.bool fi.s) (.slice A22 fi.a.length c22) (.slice D22 fi.b.length d22)
      have P10 := P10.put6 (b := w.heap.size + 2) (by omega) (.bool fr.s) (.slice A21 fr.a.length c21) (.slice D21 fr.b.length d21) (.bool fi.s) (.slice A22 fi.a.length c22) (.slice D22 fi.b.length d22)
      have s9 := s9.wr6 (r := w.heap.size + 2) (by omega) (.bool fr.s) (.slice A21 fr.a.length c21) (.slice D21 fr.b.length d21) (.bool fi.s) (.slice A22 fi.a.length c22) (.slice D22 fi.b.length d22)
      have s10 := s10.wr6 (r := w.heap.size + 2) (by omega) (.bool fr.s) (.slice A21 fr.a.length c21) (.slice D21 fr.b.length d21) (.bool fi.s) (.slice A22 fi.a.length c22) (.slice D22 fi.b.length d22)
      obtain ⟨w22, h22⟩ : ∃ w', w' = wr6 w21 (w.heap.size + 2) (.bool fr.s) (.slice A21 fr.a.length c21) (.slice D21 fr.b.length d21) (.bool fi.s) (.slice A22 fi.a.length c22) (.slice D22 fi.b.length d22) := ⟨_, rfl⟩
      rw [← h22] at sq k10 O1 O2 O3 O4 O9 P9 O10 P10 s9 s10
      go_upto_region 13 with ((refine wp_st6 rfl (.tmp 4) (.tmp 59) rfl _ rfl _ _ _ _ _ _ rfl hRC rfl rfl rfl rfl rfl rfl ?_; rw [← h22]; clear h22))
      clear hRC BX k9
      by_cases hf : fk = 0
      rotate_left
      · have hf' : (fk == 0) = false := beq_eq_false_iff_ne.2 hf
        clear sq s9 s10 O1 O2 O3 O4 O9 P9 O10 P10
        have hR1 := k10.2.2.1
        have ky := k10.putq (.bool false) (.slice none 0 0) (.slice none 0 0) (.bool false) (.slice none 0 0) (.slice none 0 0)
        have sq := hR1.put6 (.bool false) (.slice none 0 0) (.slice none 0 0) (.bool false) (.slice none 0 0) (.slice none 0 0)
        obtain ⟨W1, hW1⟩ : ∃ W1, W1 = wr6 w22 (w.heap.size + 2) (.bool false) (.slice none 0 0) (.slice none 0 0) (.bool false) (.slice none 0 0) (.slice none 0 0) := ⟨_, rfl⟩
        rw [← hW1] at ky sq
        have hR2 := ky.2.2.2.1
        go_wp2_with ((refine wp_st6 rfl (.tmp 4) (.tmp 63) rfl _ rfl _ _ _ _ _ _ rfl hR1 rfl rfl rfl rfl rfl rfl ?_; rw [← hW1]; clear hW1; refine wp_st6 rfl (.tmp 5) (.tmp 64) rfl _ rfl _ _ _ _ _ _ rfl hR2 rfl rfl rfl rfl rfl rfl ?_))
        have kz := ky.putr (.bool false) (.slice none 0 0) (.slice none 0 0) (.bool false) (.slice none 0 0) (.slice none 0 0)
        have sq := sq.wr6 (r := w.heap.size + 3) (by omega) (.bool false) (.slice none 0 0) (.slice none 0 0) (.bool false) (.slice none 0 0) (.slice none 0 0)
        have sr := hR2.put6 (.bool false) (.slice none 0 0) (.slice none 0 0) (.bool false) (.slice none 0 0) (.slice none 0 0)
        have q0' := sq.cell 0
        have q1' := sq.cell 1
        have q2' := sq.cell 2
        have q3' := sq.cell 3
        have q4' := sq.cell 4
        have q5' := sq.cell 5
        have r0' := sr.cell 0
        have r1' := sr.cell 1
        have r2' := sr.cell 2
        have r3' := sr.cell 3
        have r4' := sr.cell 4
        have r5' := sr.cell 5
        refine bodyPost_ret (v := .tuple #[.agg #[.bool false, .slice none 0 0, .slice none 0 0, .bool false, .slice none 0 0, .slice none 0 0], .agg #[.bool false, .slice none 0 0, .slice none 0 0, .bool false, .slice none 0 0, .slice none 0 0], .int .i64 fk]) (by simp [results, q0', q1', q2', q3', q4', q5', r0', r1', r2', r3', r4', r5', go_sem]) rfl ?_
        rw [show dmG (fr, fi, fk) (gr, gi, gk) = dm0 fk from by unfold dmG; rw [if_neg hf]]
        exact retNN_nil fk kz.2.2.2.2
      subst hf
      have i0 := s9.cell 0
      have i1 := s9.cell 1
      have i2 := s9.cell 2
      have j0 := s10.cell 0
      have j1 := s10.cell 1
      have j2 := s10.cell 2
      go_wp2_with fail
      refine (hG _ _ _ ⟨A9, c9, M9, m9, rfl, O9.rw, P9.rw⟩ ⟨A10, c10, M10, m10, rfl, O10.rw, P10.rw⟩).mono ?_; rintro e w23 ⟨A23, c23, D23, d23, A24, c24, D24, d24, rfl, Q1, Q2, Q3, Q4, BX⟩
      dsimp only at Q1 Q2 Q3 Q4
      have hlt := Nat.lt_trans hg9 s9.2
      have Q1 := Q1.base_le hlt
      have Q2 := Q2.base_le hlt
      have Q3 := Q3.base_le hlt
      have Q4 := Q4.base_le hlt
      clear hlt
      have h23 := k10.2.2.2.1.2
      clear i0 i1 i2 j0 j1 j2 s9 s10 O9 P9 O10 P10
      have k10 := k10.nx BX
      have sq := sq.nx BX
      have O1 := O1.below BX (Nat.le_refl _)
      have O2 := O2.below BX (Nat.le_refl _)
      have O3 := O3.below BX (Nat.le_refl _)
      have O4 := O4.below BX (Nat.le_refl _)
      have hRC := k10.2.2.2.1
      have sr := hRC.put6 (.bool gr.s) (.slice A23 gr.a.length c23) (.slice D23 gr.b.length d23) (.bool gi.s) (.slice A24 gi.a.length c24) (.slice D24 gi.b.length d24)
      have k11 := k10.putr (.bool gr.s) (.slice A23 gr.a.length c23) (.slice D23 gr.b.length d23) (.bool gi.s) (.slice A24 gi.a.length c24) (.slice D24 gi.b.length d24)
      have sq := sq.wr6 (r := w.heap.size + 3) (by omega) (.bool gr.s) (.slice A23 gr.a.length c23) (.slice D23 gr.b.length d23) (.bool gi.s) (.slice A24 gi.a.length c24) (.slice D24 gi.b.length d24)
      have O1 := O1.put6 (b := w.heap.size + 3) (by omega) (.bool gr.s) (.slice A23 gr.a.length c23) (.slice D23 gr.b.length d23) (.bool gi.s) (.slice A24 gi.a.length c24) (.slice D24 gi.b.length d24)
      have O2 := O2.put6 (b := w.heap.size + 3) (by omega) (.bool gr.s) (.slice A23 gr.a.length c23) (.slice D23 gr.b.length d23) (.bool gi.s) (.slice A24 gi.a.length c24) (.slice D24 gi.b.length d24)
      have O3 := O3.put6 (b := w.heap.size + 3) (by omega) (.bool gr.s) (.slice A23 gr.a.length c23) (.slice D23 gr.b.length d23) (.bool gi.s) (.slice A24 gi.a.length c24) (.slice D24 gi.b.length d24)
      have O4 := O4.put6 (b := w.heap.size + 3) (by omega) (.bool gr.s) (.slice A23 gr.a.length c23) (.slice D23 gr.b.length d23) (.bool gi.s) (.slice A24 gi.a.length c24) (.slice D24 gi.b.length d24)
      have Q1 := Q1.put6 (b := w.heap.size + 3) (by omega) (.bool gr.s) (.slice A23 gr.a.length c23) (.slice D23 gr.b.length d23) (.bool gi.s) (.slice A24 gi.a.length c24) (.slice D24 gi.b.length d24)
      have Q2 := Q2.put6 (b := w.heap.size + 3) (by omega) (.bool gr.s) (.slice A23 gr.a.length c23) (.slice D23 gr.b.length d23) (.bool gi.s) (.slice A24 gi.a.length c24) (.slice D24 gi.b.length d24)
      have Q3 := Q3.put6 (b := w.heap.size + 3) (by omega) (.bool gr.s) (.slice A23 gr.a.length c23) (.slice D23 gr.b.length d23) (.bool gi.s) (.slice A24 gi.a.length c24) (.slice D24 gi.b.length d24)
      have Q4 := Q4.put6 (b := w.heap.size + 3) (by omega) (.bool gr.s) (.slice A23 gr.a.length c23) (.slice D23 gr.b.length d23) (.bool gi.s) (.slice A24 gi.a.length c24) (.slice D24 gi.b.length d24)
      obtain ⟨w24, h24⟩ : ∃ w', w' = wr6 w23 (w.heap.size + 3) (.bool gr.s) (.slice A23 gr.a.length c23) (.slice D23 gr.b.length d23) (.bool gi.s) (.slice A24 gi.a.length c24) (.slice D24 gi.b.length d24) := ⟨_, rfl⟩
      rw [← h24] at sq sr k11 O1 O2 O3 O4 Q1 Q2 Q3 Q4
      go_upto_region 16 with ((refine wp_st6 rfl (.tmp 5) (.tmp 70) rfl _ rfl _ _ _ _ _ _ rfl hRC rfl rfl rfl rfl rfl rfl ?_; rw [← h24]; clear h24))
      clear hRC BX k10
      by_cases hf : gk = 0
      rotate_left
      · have hf' : (gk == 0) = false := beq_eq_false_iff_ne.2 hf
        clear sq sr O1 O2 O3 O4 Q1 Q2 Q3 Q4
        have hR1 := k11.2.2.1
        have ky := k11.putq (.bool false) (.slice none 0 0) (.slice none 0 0) (.bool false) (.slice none 0 0) (.slice none 0 0)
        have sq := hR1.put6 (.bool false) (.slice none 0 0) (.slice none 0 0) (.bool false) (.slice none 0 0) (.slice none 0 0)
        obtain ⟨W1, hW1⟩ : ∃ W1, W1 = wr6 w24 (w.heap.size + 2) (.bool false) (.slice none 0 0) (.slice none 0 0) (.bool false) (.slice none 0 0) (.slice none 0 0) := ⟨_, rfl⟩
        rw [← hW1] at ky sq
        have hR2 := ky.2.2.2.1
        go_wp2_with ((refine wp_st6 rfl (.tmp 4) (.tmp 74) rfl _ rfl _ _ _ _ _ _ rfl hR1 rfl rfl rfl rfl rfl rfl ?_; rw [← hW1]; clear hW1; refine wp_st6 rfl (.tmp 5) (.tmp 75) rfl _ rfl _ _ _ _ _ _ rfl hR2 rfl rfl rfl rfl rfl rfl ?_))
        have kz := ky.putr (.bool false) (.slice none 0 0) (.slice none 0 0) (.bool false) (.slice none 0 0) (.slice none 0 0)
        have sq := sq.wr6 (r := w.heap.size + 3) (by omega) (.bool false) (.slice none 0 0) (.slice none 0 0) (.bool false) (.slice none 0 0) (.slice none 0 0)
        have sr := hR2.put6 (.bool false) (.slice none 0 0) (.slice none 0 0) (.bool false) (.slice none 0 0) (.slice none 0 0)
        have q0' := sq.cell 0
        have q1' := sq.cell 1
        have q2' := sq.cell 2
        have q3' := sq.cell 3
        have q4' := sq.cell 4
        have q5' := sq.cell 5
        have r0' := sr.cell 0
        have r1' := sr.cell 1
        have r2' := sr.cell 2
        have r3' := sr.cell 3
        have r4' := sr.cell 4
        have r5' := sr.cell 5
        refine bodyPost_ret (v := .tuple #[.agg #[.bool false, .slice none 0 0, .slice none 0 0, .bool false, .slice none 0 0, .slice none 0 0], .agg #[.bool false, .slice none 0 0, .slice none 0 0, .bool false, .slice none 0 0, .slice none 0 0], .int .i64 gk]) (by simp [results, q0', q1', q2', q3', q4', q5', r0', r1', r2', r3', r4', r5', go_sem]) rfl ?_
        rw [show dmG (fr, fi, 0) (gr, gi, gk) = dm0 gk from by unfold dmG; rw [if_pos rfl, if_neg hf]]
        exact retNN_nil gk kz.2.2.2.2
      subst hf
      have k12 : E6 w w.heap.size [.bool fr.s, .slice A21 fr.a.length c21, .slice D21 fr.b.length d21, .bool fi.s, .slice A22 fi.a.length c22, .slice D22 fi.b.length d22] [.bool gr.s, .slice A23 gr.a.length c23, .slice D23 gr.b.length d23, .bool gi.s, .slice A24 gi.a.length c24, .slice D24 gi.b.length d24] (g8 + 1) [(A21, c21, fr.a), (D21, d21, fr.b), (A22, c22, fi.a), (D22, d22, fi.b), (A23, c23, gr.a), (D23, d23, gr.b), (A24, c24, gi.a), (D24, d24, gi.b)] w24 := ⟨sq, sr, k11.2.2.2.2, fun t ht => by
        simp only [List.mem_cons, List.not_mem_nil, or_false] at ht
        rcases ht with rfl | rfl | rfl | rfl | rfl | rfl | rfl | rfl
        · exact O1
        · exact O2
        · exact O3
        · exact O4
        · exact Q1
        · exact Q2
        · exact Q3
        · exact Q4⟩
      have conjE : ∀ w', E6 w w.heap.size [.bool fr.s, .slice A21 fr.a.length c21, .slice D21 fr.b.length d21, .bool fi.s, .slice A22 fi.a.length c22, .slice D22 fi.b.length d22] [.bool gr.s, .slice A23 gr.a.length c23, .slice D23 gr.b.length d23, .bool gi.s, .slice A24 gi.a.length c24, .slice D24 gi.b.length d24] (g8 + 1) [(A21, c21, fr.a), (D21, d21, fr.b), (A22, c22, fi.a), (D22, d22, fi.b), (A23, c23, gr.a), (D23, d23, gr.b), (A24, c24, gi.a), (D24, d24, gi.b)] w' → w'.cell? ⟨w.heap.size + 2, 0, none⟩ = some (.bool fr.s) ∧ w'.cell? ⟨w.heap.size + 2, 1, none⟩ = some (.slice A21 fr.a.length c21) ∧ w'.cell? ⟨w.heap.size + 2, 2, none⟩ = some (.slice D21 fr.b.length d21) ∧ w'.cell? ⟨w.heap.size + 2, 3, none⟩ = some (.bool fi.s) ∧ w'.cell? ⟨w.heap.size + 2, 4, none⟩ = some (.slice A22 fi.a.length c22) ∧ w'.cell? ⟨w.heap.size + 2, 5, none⟩ = some (.slice D22 fi.b.length d22) ∧ w'.cell? ⟨w.heap.size + 3, 0, none⟩ = some (.bool gr.s) ∧ w'.cell? ⟨w.heap.size + 3, 1, none⟩ = some (.slice A23 gr.a.length c23) ∧ w'.cell? ⟨w.heap.size + 3, 2, none⟩ = some (.slice D23 gr.b.length d23) ∧ w'.cell? ⟨w.heap.size + 3, 3, none⟩ = some (.bool gi.s) ∧ w'.cell? ⟨w.heap.size + 3, 4, none⟩ = some (.slice A24 gi.a.length c24) ∧ w'.cell? ⟨w.heap.size + 3, 5, none⟩ = some (.slice D24 gi.b.length d24) ∧ w'.frozen? ⟨w.heap.size + 2, 0, none⟩ = false ∧ w'.frozen? ⟨w.heap.size + 2, 1, none⟩ = false ∧ w'.frozen? ⟨w.heap.size + 2, 2, none⟩ = false ∧ w'.frozen? ⟨w.heap.size + 2, 3, none⟩ = false ∧ w'.frozen? ⟨w.heap.size + 2, 4, none⟩ = false ∧ w'.frozen? ⟨w.heap.size + 2, 5, none⟩ = false ∧ w'.frozen? ⟨w.heap.size + 3, 0, none⟩ = false ∧ w'.frozen? ⟨w.heap.size + 3, 1, none⟩ = false ∧ w'.frozen? ⟨w.heap.size + 3, 2, none⟩ = false ∧ w'.frozen? ⟨w.heap.size + 3, 3, none⟩ = false ∧ w'.frozen? ⟨w.heap.size + 3, 4, none⟩ = false ∧ w'.frozen? ⟨w.heap.size + 3, 5, none⟩ = false ∧ E6 w w.heap.size [.bool fr.s, .slice A21 fr.a.length c21, .slice D21 fr.b.length d21, .bool fi.s, .slice A22 fi.a.length c22, .slice D22 fi.b.length d22] [.bool gr.s, .slice A23 gr.a.length c23, .slice D23 gr.b.length d23, .bool gi.s, .slice A24 gi.a.length c24, .slice D24 gi.b.length d24] (g8 + 1) [(A21, c21, fr.a), (D21, d21, fr.b), (A22, c22, fi.a), (D22, d22, fi.b), (A23, c23, gr.a), (D23, d23, gr.b), (A24, c24, gi.a), (D24, d24, gi.b)] w' := fun w' h => ⟨h.1.cell 0, h.1.cell 1, h.1.cell 2, h.1.cell 3, h.1.cell 4, h.1.cell 5, h.2.1.cell 0, h.2.1.cell 1, h.2.1.cell 2, h.2.1.cell 3, h.2.1.cell 4, h.2.1.cell 5, h.1.frozen 0, h.1.frozen 1, h.1.frozen 2, h.1.frozen 3, h.1.frozen 4, h.1.frozen 5, h.2.1.frozen 0, h.2.1.frozen 1, h.2.1.frozen 2, h.2.1.frozen 3, h.2.1.frozen 4, h.2.1.frozen 5, h⟩
      have hg9' : w.heap.size + 3 < g8 + 1 := by omega
      clear sq sr k11 O1 O2 O3 O4 Q1 Q2 Q3 Q4
      go_upto_region 18 with fail
      have k12d := conjE _ k12.dr
      have e0_ := k12.1.cell 0
      have e1_ := k12.1.cell 1
      have e2_ := k12.1.cell 2
      have e3_ := k12.1.cell 3
      have e4_ := k12.1.cell 4
      have e5_ := k12.1.cell 5
      have l0_ := k12.2.1.cell 0
      have l1_ := k12.2.1.cell 1
      have l2_ := k12.2.1.cell 2
      have l3_ := k12.2.1.cell 3
      have l4_ := k12.2.1.cell 4
      have l5_ := k12.2.1.cell 5
      have ef0_ := k12.1.frozen 0
      have ef1_ := k12.1.frozen 1
      have ef2_ := k12.1.frozen 2
      have ef3_ := k12.1.frozen 3
      have ef4_ := k12.1.frozen 4
      have ef5_ := k12.1.frozen 5
      have lf0_ := k12.2.1.frozen 0
      have lf1_ := k12.2.1.frozen 1
      have lf2_ := k12.2.1.frozen 2
      have lf3_ := k12.2.1.frozen 3
      have lf4_ := k12.2.1.frozen 4
      have lf5_ := k12.2.1.frozen 5
      clear k12
      go_region_held3 (fun w' => w'.cell? ⟨w.heap.size + 2, 0, none⟩ = some (.bool fr.s) ∧ w'.cell? ⟨w.heap.size + 2, 1, none⟩ = some (.slice A21 fr.a.length c21) ∧ w'.cell? ⟨w.heap.size + 2, 2, none⟩ = some (.slice D21 fr.b.length d21) ∧ w'.cell? ⟨w.heap.size + 2, 3, none⟩ = some (.bool fi.s) ∧ w'.cell? ⟨w.heap.size + 2, 4, none⟩ = some (.slice A22 fi.a.length c22) ∧ w'.cell? ⟨w.heap.size + 2, 5, none⟩ = some (.slice D22 fi.b.length d22) ∧ w'.cell? ⟨w.heap.size + 3, 0, none⟩ = some (.bool gr.s) ∧ w'.cell? ⟨w.heap.size + 3, 1, none⟩ = some (.slice A23 gr.a.length c23) ∧ w'.cell? ⟨w.heap.size + 3, 2, none⟩ = some (.slice D23 gr.b.length d23) ∧ w'.cell? ⟨w.heap.size + 3, 3, none⟩ = some (.bool gi.s) ∧ w'.cell? ⟨w.heap.size + 3, 4, none⟩ = some (.slice A24 gi.a.length c24) ∧ w'.cell? ⟨w.heap.size + 3, 5, none⟩ = some (.slice D24 gi.b.length d24) ∧ w'.frozen? ⟨w.heap.size + 2, 0, none⟩ = false ∧ w'.frozen? ⟨w.heap.size + 2, 1, none⟩ = false ∧ w'.frozen? ⟨w.heap.size + 2, 2, none⟩ = false ∧ w'.frozen? ⟨w.heap.size + 2, 3, none⟩ = false ∧ w'.frozen? ⟨w.heap.size + 2, 4, none⟩ = false ∧ w'.frozen? ⟨w.heap.size + 2, 5, none⟩ = false ∧ w'.frozen? ⟨w.heap.size + 3, 0, none⟩ = false ∧ w'.frozen? ⟨w.heap.size + 3, 1, none⟩ = false ∧ w'.frozen? ⟨w.heap.size + 3, 2, none⟩ = false ∧ w'.frozen? ⟨w.heap.size + 3, 3, none⟩ = false ∧ w'.frozen? ⟨w.heap.size + 3, 4, none⟩ = false ∧ w'.frozen? ⟨w.heap.size + 3, 5, none⟩ = false ∧ E6 w w.heap.size [.bool fr.s, .slice A21 fr.a.length c21, .slice D21 fr.b.length d21, .bool fi.s, .slice A22 fi.a.length c22, .slice D22 fi.b.length d22] [.bool gr.s, .slice A23 gr.a.length c23, .slice D23 gr.b.length d23, .bool gi.s, .slice A24 gi.a.length c24, .slice D24 gi.b.length d24] (g8 + 1) [(A21, c21, fr.a), (D21, d21, fr.b), (A22, c22, fi.a), (D22, d22, fi.b), (A23, c23, gr.a), (D23, d23, gr.b), (A24, c24, gi.a), (D24, d24, gi.b)] w')
        (first
          | with_reducible exact k12d
          | with_reducible exact conjE _ (E6.putq (by with_reducible assumption : _ ∧ _ ∧ _ ∧ _ ∧ _ ∧ _ ∧ _ ∧ _ ∧ _ ∧ _ ∧ _ ∧ _ ∧ _ ∧ _ ∧ _ ∧ _ ∧ _ ∧ _ ∧ _ ∧ _ ∧ _ ∧ _ ∧ _ ∧ _ ∧ E6 w w.heap.size [.bool fr.s, .slice A21 fr.a.length c21, .slice D21 fr.b.length d21, .bool fi.s, .slice A22 fi.a.length c22, .slice D22 fi.b.length d22] [.bool gr.s, .slice A23 gr.a.length c23, .slice D23 gr.b.length d23, .bool gi.s, .slice A24 gi.a.length c24, .slice D24 gi.b.length d24] (g8 + 1) [(A21, c21, fr.a), (D21, d21, fr.b), (A22, c22, fi.a), (D22, d22, fi.b), (A23, c23, gr.a), (D23, d23, gr.b), (A24, c24, gi.a), (D24, d24, gi.b)] _).2.2.2.2.2.2.2.2.2.2.2.2.2.2.2.2.2.2.2.2.2.2.2.2 hg9')
          | with_reducible exact conjE _ (E6.putr (by with_reducible assumption : _ ∧ _ ∧ _ ∧ _ ∧ _ ∧ _ ∧ _ ∧ _ ∧ _ ∧ _ ∧ _ ∧ _ ∧ _ ∧ _ ∧ _ ∧ _ ∧ _ ∧ _ ∧ _ ∧ _ ∧ _ ∧ _ ∧ _ ∧ _ ∧ E6 w w.heap.size [.bool fr.s, .slice A21 fr.a.length c21, .slice D21 fr.b.length d21, .bool fi.s, .slice A22 fi.a.length c22, .slice D22 fi.b.length d22] [.bool gr.s, .slice A23 gr.a.length c23, .slice D23 gr.b.length d23, .bool gi.s, .slice A24 gi.a.length c24, .slice D24 gi.b.length d24] (g8 + 1) [(A21, c21, fr.a), (D21, d21, fr.b), (A22, c22, fi.a), (D22, d22, fi.b), (A23, c23, gr.a), (D23, d23, gr.b), (A24, c24, gi.a), (D24, d24, gi.b)] _).2.2.2.2.2.2.2.2.2.2.2.2.2.2.2.2.2.2.2.2.2.2.2.2 hg9'))
        (first | fail)
      all_goals
        have hE := (by with_reducible assumption : _ ∧ _ ∧ _ ∧ _ ∧ _ ∧ _ ∧ _ ∧ _ ∧ _ ∧ _ ∧ _ ∧ _ ∧ _ ∧ _ ∧ _ ∧ _ ∧ _ ∧ _ ∧ _ ∧ _ ∧ _ ∧ _ ∧ _ ∧ _ ∧ E6 w w.heap.size [.bool fr.s, .slice A21 fr.a.length c21, .slice D21 fr.b.length d21, .bool fi.s, .slice A22 fi.a.length c22, .slice D22 fi.b.length d22] [.bool gr.s, .slice A23 gr.a.length c23, .slice D23 gr.b.length d23, .bool gi.s, .slice A24 gi.a.length c24, .slice D24 gi.b.length d24] (g8 + 1) [(A21, c21, fr.a), (D21, d21, fr.b), (A22, c22, fi.a), (D22, d22, fi.b), (A23, c23, gr.a), (D23, d23, gr.b), (A24, c24, gi.a), (D24, d24, gi.b)] _).2.2.2.2.2.2.2.2.2.2.2.2.2.2.2.2.2.2.2.2.2.2.2.2
        have q0' := hE.1.cell 0
        have q1' := hE.1.cell 1
        have q2' := hE.1.cell 2
        have q3' := hE.1.cell 3
        have q4' := hE.1.cell 4
        have q5' := hE.1.cell 5
        have r0' := hE.2.1.cell 0
        have r1' := hE.2.1.cell 1
        have r2' := hE.2.1.cell 2
        have r3' := hE.2.1.cell 3
        have r4' := hE.2.1.cell 4
        have r5' := hE.2.1.cell 5
        clear conjE k12d
        go_wp2_with fail
        refine bodyPost_ret (v := .tuple #[.agg #[.bool fr.s, .slice A21 fr.a.length c21, .slice D21 fr.b.length d21, .bool fi.s, .slice A22 fi.a.length c22, .slice D22 fi.b.length d22], .agg #[.bool gr.s, .slice A23 gr.a.length c23, .slice D23 gr.b.length d23, .bool gi.s, .slice A24 gi.a.length c24, .slice D24 gi.b.length d24], .int .i64 0]) (by simp [results, q0', q1', q2', q3', q4', q5', r0', r1', r2', r3', r4', r5', go_sem]) rfl ?_
        have hle : w.heap.size ≤ g8 + 1 := by omega
        have hO : ∀ t ∈ [(A21, c21, fr.a), (D21, d21, fr.b), (A22, c22, fi.a), (D22, d22, fi.b), (A23, c23, gr.a), (D23, d23, gr.b), (A24, c24, gi.a), (D24, d24, gi.b)], OW _ w.heap.size t.1 t.2.1 t.2.2 := fun t ht => (hE.2.2.2 t ht).base_le hle
        rw [show dmG (fr, fi, 0) (gr, gi, 0) = (fr, fi, gr, gi, 0) from by unfold dmG; rw [if_pos rfl, if_pos rfl]]
        exact ⟨A21, c21, D21, d21, A22, c22, D22, d22, A23, c23, D23, d23, A24, c24, D24, d24, rfl, ⟨hO (A21, c21, fr.a) (by simp), hO (D21, d21, fr.b) (by simp), hO (A22, c22, fi.a) (by simp), hO (D22, d22, fi.b) (by simp)⟩, ⟨hO (A23, c23, gr.a) (by simp), hO (D23, d23, gr.b) (by simp), hO (A24, c24, gi.a) (by simp), hO (D24, d24, gi.b) (by simp)⟩, hE.2.2.1⟩


/-- the whole quotient and the rest -/
def qdmA (r i r' i' : Rw) : Rw × Rw × Rw × Rw × Int := if chkN2 true r i r' i' = 0 then (if qv r' = 0 then dm0 3 else
  dmG (fitQ (if qn (qv r') = true then -((flr (qv r * (ab (qv r'))⁻¹) : Int) : Rat) else ((flr (qv r * (ab (qv r'))⁻¹) : Int) : Rat)) 0) (fitQ (qv r + -(((flr (qv r * (ab (qv r'))⁻¹) : Int) : Rat) * ab (qv r'))) 0)) else dm0 (chkN2 true r i r' i')
theorem im_zero {y : Rat} (h : (rwq y).a = []) : y = 0 := by
  have h1 : (digs (qt y)).length = 0 := by rw [show digs (qt y) = [] from h]; rfl
  exact qt_zero.1 (digs_len0.1 h1)
theorem edm_any {V U : Value} {r i r' i' : Rw} {w : World} (hV : VN w w.heap.size V r i) (hU : VN w w.heap.size U r' i') :
    Calls Try.prog 31 #[V, U] w (RetNN w (qdmA r i r' i')) := by
  unfold qdmA
  by_cases h : chkN2 true r i r' i' = 0
  · rw [if_pos h]
    obtain ⟨n1, n2, h3, h4⟩ := chkN2_zero h
    obtain ⟨x, y, rfl, rfl, b1, b2⟩ := nB_rat n1
    obtain ⟨u, v, rfl, rfl, b3, b4⟩ := nB_rat n2
    rw [qv_rwq, qv_rwq]
    have hv := im_zero h4
    by_cases h0 : u = 0
    · rw [if_pos h0]
      exact edm_zero V U x y u v w hV hU b1 b3 h ⟨h0, hv⟩
    · rw [if_neg h0]
      exact edm_ok V U x y u v w hV hU b1 b3 h (fun hh => h0 hh.1) h0
  · rw [if_neg h]
    exact edm_bad V U r i r' i' w hV hU h

end Go.Proofs.Ytnlgoedklmjhlaa
namespace Go.Proofs.Ytnlgoedklmjhlaa
open Go.RowKit

theorem qd_rat (x : Rat) : (0 : Rat) < ((qd x : Int) : Rat) := by
  have := qd_pos x
  have h : (0 : Int) < (qd x : Int) := by omega
  exact Rat.intCast_lt_intCast.2 h
theorem rat_mul_d (x : Rat) : x * ((qd x : Int) : Rat) = ((x.num : Int) : Rat) := by
  have h0 := qd_rat x
  have h1 : x = ((x.num : Int) : Rat) / ((qd x : Nat) : Rat) := by
    rw [← Rat.mkRat_eq_div]; exact (Rat.mkRat_self x).symm
  rw [Rat.intCast_natCast] at h0 ⊢
  have h2 : ((qd x : Nat) : Rat) ≠ 0 := fun h => by rw [h] at h0; exact absurd h0 (by decide)
  generalize ((qd x : Nat) : Rat) = d at *
  generalize ((x.num : Int) : Rat) = n at *
  rw [h1]
  grind
theorem flr_int (x : Rat) : flr x * (qd x : Int) ≤ x.num ∧ x.num < (flr x + 1) * (qd x : Int) := by
  have h1 := q_num x
  have h2 := qd_pos x
  have h3 := Nat.div_add_mod (qt x) (qd x)
  have h4 := Nat.mod_lt (qt x) (Nat.pos_of_ne_zero h2)
  unfold flr sgn
  generalize qt x = t at *
  generalize qd x = d at *
  generalize t / d = k at *
  generalize t % d = r at *
  have h5 : (d : Int) * (k : Int) + (r : Int) = (t : Int) := by exact_mod_cast h3
  generalize hm : (d : Int) * (k : Int) = m at *
  rw [h1]
  cases hs : qn x with
  | false =>
    rw [if_neg (by simp), if_neg (by simp), if_neg (by simp), Int.add_mul, Int.one_mul, Int.mul_comm (k : Int), hm]
    omega
  | true =>
    rw [if_pos rfl, if_pos rfl]
    by_cases h0 : r = 0
    · rw [if_neg (by simp [h0]), Int.add_mul, Int.one_mul, Int.neg_mul, Int.mul_comm (k : Int), hm]
      omega
    · rw [if_pos ⟨rfl, h0⟩, Int.add_mul, Int.one_mul, Int.neg_mul, Int.natCast_add, Int.add_mul, Int.mul_comm (k : Int), hm]
      simp only [Int.natCast_one, Int.one_mul]
      omega
theorem flr_le (x : Rat) : ((flr x : Int) : Rat) ≤ x := by
  refine Rat.le_of_mul_le_mul_right (c := ((qd x : Int) : Rat)) ?_ (qd_rat x)
  rw [rat_mul_d, ← Rat.intCast_mul]
  exact Rat.intCast_le_intCast.2 (flr_int x).1
theorem lt_flr (x : Rat) : x < ((flr x : Int) : Rat) + 1 := by
  refine (Rat.mul_lt_mul_right (c := ((qd x : Int) : Rat)) (qd_rat x)).1 ?_
  rw [rat_mul_d, show ((flr x : Int) : Rat) + 1 = ((flr x + 1 : Int) : Rat) by rw [Rat.intCast_add]; rfl, ← Rat.intCast_mul]
  exact Rat.intCast_lt_intCast.2 (flr_int x).2
theorem ab_pos {u : Rat} (h : u ≠ 0) : 0 < ab u := by
  have h1 : ¬ ab u < 0 := fun h2 => by have := qn_iff.2 h2; rw [ab_n] at this; cases this
  have h2 : ab u ≠ 0 := by unfold ab; split <;> grind
  grind
/-- the rest is from 0 to below the divisor's size -/
theorem rest_of {x u n : Rat} (hn : n = ((flr (x * (ab u)⁻¹) : Int) : Rat)) (h : u ≠ 0) : 0 ≤ x + -(n * ab u) ∧ x + -(n * ab u) < ab u := by
  have h1 := ab_pos h
  have h2 := flr_le (x * (ab u)⁻¹)
  have h3 := lt_flr (x * (ab u)⁻¹)
  rw [← hn] at h2 h3
  have h4 : x * (ab u)⁻¹ * ab u = x := by
    generalize ab u = a at *
    have : a ≠ 0 := by grind
    grind
  have h5 := Rat.mul_le_mul_of_nonneg_right h2 (Rat.le_of_lt h1)
  have h6 := (Rat.mul_lt_mul_right h1).2 h3
  rw [h4] at h5 h6
  generalize ab u = a at *
  have h7 : (n + 1) * a = n * a + a := by grind
  rw [h7] at h6
  generalize n * a = m at *
  constructor <;> grind
theorem cmpQ_lt {p q : Rat} (h : p < q) : cmpQ p q = -1 := by
  unfold cmpQ
  rw [if_pos (qn_iff.2 (by grind))]
theorem cmpQ_gt {p q : Rat} (h : q < p) : cmpQ p q = 1 := by
  have h1 : qn (p + -q) = false := by
    cases h2 : qn (p + -q) with
    | false => rfl
    | true => have := qn_iff.1 h2; grind
  have h2 : qt (p + -q) ≠ 0 := fun h3 => by have := qt_zero.1 h3; grind
  unfold cmpQ
  rw [h1, if_neg (by simp), if_pos (by omega)]
theorem cmpQ_eq (p : Rat) : cmpQ p p = 0 := by
  unfold cmpQ
  rw [show p + -p = 0 by grind]
  rfl
theorem cmpQ_cases (p q : Rat) : (p < q ∧ cmpQ p q = -1) ∨ (p = q ∧ cmpQ p q = 0) ∨ (q < p ∧ cmpQ p q = 1) := by
  by_cases h : p < q
  · exact Or.inl ⟨h, cmpQ_lt h⟩
  · by_cases h2 : p = q
    · subst h2
      exact Or.inr (Or.inl ⟨rfl, cmpQ_eq p⟩)
    · have h3 : q < p := by grind
      exact Or.inr (Or.inr ⟨h3, cmpQ_gt h3⟩)
theorem cmpQ_neg (p q : Rat) : cmpQ q p = -cmpQ p q := by
  rcases cmpQ_cases p q with ⟨h, e⟩ | ⟨h, e⟩ | ⟨h, e⟩
  · rw [e, cmpQ_gt h]; rfl
  · rw [e, h, cmpQ_eq]; rfl
  · rw [e, cmpQ_lt h]
theorem cmpQ_add (p q s : Rat) : cmpQ (p + s) (q + s) = cmpQ p q := by
  rcases cmpQ_cases p q with ⟨h, e⟩ | ⟨h, e⟩ | ⟨h, e⟩
  · rw [e]; exact cmpQ_lt (by grind)
  · rw [e, h]; exact cmpQ_eq _
  · rw [e]; exact cmpQ_gt (by grind)
theorem chkN2_sym (r i r' i' : Rw) : chkN2 true r' i' r i = chkN2 true r i r' i' := by
  unfold chkN2
  by_cases h1 : nB r i = true <;> by_cases h2 : nB r' i' = true <;> by_cases h3 : 0 < i.a.length <;> by_cases h4 : 0 < i'.a.length <;> simp [h1, h2, h3, h4]
theorem cmp_swap (r i r' i' : Rw) : qcmpA r' i' r i = (-(qcmpA r i r' i').1, (qcmpA r i r' i').2) ∧ ((qcmpA r i r' i').1 = -1 ∨ (qcmpA r i r' i').1 = 0 ∨ (qcmpA r i r' i').1 = 1) := by
  unfold qcmpA
  rw [chkN2_sym r i r' i']
  by_cases h : chkN2 true r i r' i' = 0
  · rw [if_pos h, if_pos h]
    refine ⟨by rw [cmpQ_neg], ?_⟩
    rcases cmpQ_cases (qv r) (qv r') with ⟨_, e⟩ | ⟨_, e⟩ | ⟨_, e⟩ <;> simp [e]
  · rw [if_neg h, if_neg h]
    exact ⟨rfl, Or.inr (Or.inl rfl)⟩
theorem chk_real {x u : Rat} (hx : qw x ≤ 512) (hu : qw u ≤ 512) : chkN2 true (rwq x) (rwq 0) (rwq u) (rwq 0) = 0 := by
  have e : (rwq 0).a.length = 0 := by decide_cbv
  unfold chkN2
  rw [if_pos ⟨nB_rwq hx qw0, nB_rwq hu qw0⟩, if_neg (by rw [e]; simp)]
theorem cmpA_q {x u : Rat} (hx : qw x ≤ 512) (hu : qw u ≤ 512) : qcmpA (rwq x) (rwq 0) (rwq u) (rwq 0) = (cmpQ x u, 0) := by
  unfold qcmpA
  rw [if_pos (chk_real hx hu), qv_rwq, qv_rwq]
/-- an argument of Cmp that is real -/
theorem chk_rats {r i r' i' : Rw} (h : chkN2 true r i r' i' = 0) : ∃ x u, r = rwq x ∧ i = rwq 0 ∧ r' = rwq u ∧ i' = rwq 0 ∧ qw x ≤ 512 ∧ qw u ≤ 512 := by
  obtain ⟨n1, n2, h3, h4⟩ := chkN2_zero h
  obtain ⟨x, y, rfl, rfl, b1, b2⟩ := nB_rat n1
  obtain ⟨u, v, rfl, rfl, b3, b4⟩ := nB_rat n2
  have hv := im_zero h4
  have hy := im_zero h3
  subst hv; subst hy
  exact ⟨x, u, rfl, rfl, rfl, rfl, b1, b3⟩
theorem cmpA_ok {r i r' i' : Rw} (h : (qcmpA r i r' i').2 = 0) : chkN2 true r i r' i' = 0 := by
  unfold qcmpA at h
  by_cases h1 : chkN2 true r i r' i' = 0
  · exact h1
  · rw [if_neg h1] at h
    exact absurd h h1
/-- the order goes with sums -/
theorem order_sum {ra ia rb ib rc ic xr xi yr yi : Rw} {ck cm : Int} (e1 : qcmpA ra ia rb ib = (ck, 0)) (e3 : qaddA ra ia rc ic = (xr, xi, 0)) (e4 : qaddA rb ib rc ic = (yr, yi, 0)) (e5 : qcmpA xr xi yr yi = (cm, 0)) : cm = ck := by
  have h1 := cmpA_ok (show (qcmpA ra ia rb ib).2 = 0 by rw [e1])
  obtain ⟨x, u, rfl, rfl, rfl, rfl, b1, b2⟩ := chk_rats h1
  have n3 : nB rc ic = true := by
    cases hn : nB rc ic with
    | true => rfl
    | false => unfold qaddA at e3; rw [hn, if_neg (by simp)] at e3; simp at e3
  obtain ⟨p, q, rfl, rfl, b3, b4⟩ := nB_rat n3
  rw [qaddA_q b1 qw0 b3 b4] at e3
  rw [qaddA_q b2 qw0 b3 b4] at e4
  obtain ⟨rfl, rfl, c1, c2⟩ := fitQ_inv e3
  obtain ⟨rfl, rfl, c3, c4⟩ := fitQ_inv e4
  have h5 := cmpA_ok (show (qcmpA (rwq (x + p)) (rwq (0 + q)) (rwq (u + p)) (rwq (0 + q))).2 = 0 by rw [e5])
  unfold qcmpA at e1 e5
  rw [if_pos h1, qv_rwq, qv_rwq] at e1
  rw [if_pos h5, qv_rwq, qv_rwq, cmpQ_add] at e5
  have f1 := congrArg Prod.fst e1
  have f5 := congrArg Prod.fst e5
  exact f5.symm.trans f1
theorem dmG_inv {f g : Rw × Rw × Int} {a b c d : Rw} {j : Int} (h : dmG f g = (a, b, c, d, j)) : (j ≠ 0 ∧ a = rw0 ∧ b = rw0 ∧ c = rw0 ∧ d = rw0) ∨ (j = 0 ∧ f = (a, b, 0) ∧ g = (c, d, 0)) := by
  obtain ⟨f1, f2, f3⟩ := f
  obtain ⟨g1, g2, g3⟩ := g
  unfold dmG dm0 at h
  dsimp only at h
  by_cases h1 : f3 = 0
  · by_cases h2 : g3 = 0
    · rw [if_pos h1, if_pos h2] at h
      simp only [Prod.mk.injEq] at h
      obtain ⟨rfl, rfl, rfl, rfl, rfl⟩ := h
      subst h1; subst h2
      exact Or.inr ⟨rfl, rfl, rfl⟩
    · rw [if_pos h1, if_neg h2] at h
      simp only [Prod.mk.injEq] at h
      obtain ⟨rfl, rfl, rfl, rfl, rfl⟩ := h
      exact Or.inl ⟨h2, rfl, rfl, rfl, rfl⟩
  · rw [if_neg h1] at h
    simp only [Prod.mk.injEq] at h
    obtain ⟨rfl, rfl, rfl, rfl, rfl⟩ := h
    exact Or.inl ⟨h1, rfl, rfl, rfl, rfl⟩
theorem wB_q {n : Int} (h : qw (n : Rat) ≤ 512) : wB (rwq (n : Rat)) (rwq 0) = true := by
  have e : (rwq 0).a.length = 0 := by decide_cbv
  have e2 : (rwq (n : Rat)).b = [1] := by show digs (qd (n : Rat)) = [1]; rw [qd_int]; exact digs_one1
  unfold wB
  rw [nB_rwq h qw0, e, e2]
  rfl
/-- what DivMod answers -/
theorem order_div {ra ia rb ib qr qi sr si : Rw} {j : Int} (e : qdmA ra ia rb ib = (qr, qi, sr, si, j)) :
    (j ≠ 0 ∧ qr = rw0 ∧ qi = rw0 ∧ sr = rw0 ∧ si = rw0) ∨ (j = 0 ∧ wB qr qi = true ∧ (∀ pr pi tr ti, qmulA qr qi rb ib = (pr, pi, 0) → qaddA pr pi sr si = (tr, ti, 0) → sameB tr ti ra ia = true) ∧
      (∃ low, qcmpA sr si (rwq 0) (rwq 0) = (low, 0) ∧ 0 ≤ low) ∧ ∃ sg, qcmpA rb ib (rwq 0) (rwq 0) = (sg, 0) ∧
        (sg < 0 ∧ (∃ nr ni, qsubA (rwq 0) (rwq 0) rb ib = (nr, ni, 0) ∧ qcmpA sr si nr ni = (-1, 0)) ∨ ¬ sg < 0 ∧ qcmpA sr si rb ib = (-1, 0))) := by
  unfold qdmA at e
  by_cases h : chkN2 true ra ia rb ib = 0
  · rw [if_pos h] at e
    obtain ⟨x, u, rfl, rfl, rfl, rfl, b1, b2⟩ := chk_rats h
    rw [qv_rwq, qv_rwq] at e
    by_cases h0 : u = 0
    · rw [if_pos h0] at e
      unfold dm0 at e
      simp only [Prod.mk.injEq] at e
      obtain ⟨rfl, rfl, rfl, rfl, rfl⟩ := e
      exact Or.inl ⟨by omega, rfl, rfl, rfl, rfl⟩
    · rw [if_neg h0] at e
      rcases dmG_inv e with h1 | ⟨rfl, f, g⟩
      · exact Or.inl h1
      refine Or.inr ⟨rfl, ?_⟩
      have hr := rest_of (x := x) (u := u) rfl h0
      obtain ⟨N, hN⟩ : ∃ N : Int, flr (x * (ab u)⁻¹) = N := ⟨_, rfl⟩
      rw [hN] at f g hr
      have hQ : ∃ M : Int, (if qn u = true then -(N : Rat) else (N : Rat)) = (M : Rat) ∧ (M : Rat) * u = (N : Rat) * ab u := by
        unfold ab
        by_cases hs : qn u = true
        · exact ⟨-N, by rw [if_pos hs, Rat.intCast_neg], by rw [if_pos hs, Rat.intCast_neg]; grind⟩
        · exact ⟨N, by rw [if_neg hs], by rw [if_neg hs]⟩
      obtain ⟨M, hM1, hM2⟩ := hQ
      rw [hM1] at f
      rw [← hM2] at g hr
      have hap := ab_pos h0
      have haw := qw_ab u
      obtain ⟨rfl, rfl, c1, c2⟩ := fitQ_inv f
      obtain ⟨rfl, rfl, c3, c4⟩ := fitQ_inv g
      refine ⟨wB_q c1, ?_, ⟨_, cmpA_q c3 qw0, ?_⟩, _, cmpA_q b2 qw0, ?_⟩
      · intro pr pi tr ti e1 e2
        rw [qmulA_q c1 qw0 b2 qw0] at e1
        obtain ⟨rfl, rfl, d1, d2⟩ := fitQ_inv e1
        rw [qaddA_q d1 d2 c3 qw0] at e2
        obtain ⟨rfl, rfl, d3, d4⟩ := fitQ_inv e2
        rw [sameB_q d3 d4 b1 qw0, decide_eq_true_eq]
        constructor <;> grind
      · rcases cmpQ_cases (x + -((M : Rat) * u)) 0 with ⟨h1, e⟩ | ⟨h1, e⟩ | ⟨h1, e⟩ <;> rw [e]
        · grind
        · omega
        · omega
      · rcases cmpQ_cases u 0 with ⟨h1, e⟩ | ⟨h1, e⟩ | ⟨h1, e⟩ <;> rw [e]
        · refine Or.inl ⟨by omega, rwq (-u), rwq 0, ?_, ?_⟩
          · rw [qsubA_q qw0 qw0 b2 qw0, show (0 : Rat) + -u = -u by grind, show (0 : Rat) + -0 = 0 by grind]
            exact fitQ_ok (by rw [qw_neg]; exact b2) qw0
          · rw [cmpA_q c3 (by rw [qw_neg]; exact b2)]
            have : ab u = -u := by unfold ab; rw [if_pos (qn_iff.2 h1)]
            rw [this] at hr
            rw [cmpQ_lt hr.2]
        · exact absurd h1 h0
        · refine Or.inr ⟨by omega, ?_⟩
          rw [cmpA_q c3 b2]
          have : ab u = u := by
            unfold ab
            rw [if_neg]
            intro h2
            have := qn_iff.1 h2
            grind
          rw [this] at hr
          rw [cmpQ_lt hr.2]
  · rw [if_neg h] at e
    unfold dm0 at e
    simp only [Prod.mk.injEq] at e
    obtain ⟨rfl, rfl, rfl, rfl, rfl⟩ := e
    exact Or.inl ⟨h, rfl, rfl, rfl, rfl⟩
end Go.Proofs.Ytnlgoedklmjhlaa
