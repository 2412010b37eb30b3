/- Walks: the reference's down. -/
import Derived.Test.YtdkejndagicgjaaGM
import Derived.Test.YtdkejndagicgjaaGO
namespace Go.Proofs.Ytdkejndagicgjaa
open Go.RowKit

theorem litI (w : World) : OW (w.alloc (.cells #[.int .u32 1] 60)) w.heap.size (some ⟨w.heap.size, 0, none⟩) 1 [1] := lit1 w
/-- a whole fraction in its own words -/
def RetDn (w : World) (s : Bool) (k : Nat) (e : Ending) (w' : World) : Prop := ∃ A c D d, e = .returned (.agg #[.bool s, .slice A (digs k).length c, .slice D 1 d]) ∧
  OW w' w.heap.size A c (digs k) ∧ OW w' w.heap.size D d [1] ∧ Below w.heap.size w w'


set_option maxRecDepth 100000 in
set_option maxHeartbeats 4000000 in
theorem down_up (A1 D1 : Option Addr) (c1 d1 : Nat) (a b : List Nat) (N R : Nat) (w : World) (h1 : RW w w.heap.size A1 c1 a) (h2 : RW w w.heap.size D1 d1 b)
    (hO : ∀ w', RW w' w'.heap.size A1 c1 a → RW w' w'.heap.size D1 d1 b → Calls Try.prog 87 #[.slice A1 a.length c1, .slice D1 b.length d1] w' (RetQ w' N R)) (hN : N < Wp 14000)  :
    Calls Try.prog 56 #[.agg #[.bool false, .slice A1 a.length c1, .slice D1 b.length d1]] w (RetDn w false N) := by
  have k0 := S2.new w [.bool false, .slice A1 a.length c1, .slice D1 b.length d1] [.bool false, .slice none 0 0, .slice none 0 0] 24 24 3
  have i0 := k0.1.cell 0
  have i1 := k0.1.cell 1
  have i2 := k0.1.cell 2
  have C0 := k0.2.2
  have hbk := k0.2.1.2
  have lN := (digs_len_le (n := N)).2 hN
  go_enter Try.func56, Try.ntmps56
  go_wp2_with fail
  refine (hO _ (st h1 C0) (st h2 C0)).mono ?_; rintro e w3 ⟨A3, c3, D3, d3, rfl, O3, P3, B3⟩
  have k3 := k0.nx B3
  have j0 := k3.1.cell 0
  clear i0 i1 i2
  have O6 := O3
  have k6 := k3
  have hRD := k6.2.1
  have j0 := k6.1.cell 0
  have m0 := hRD.cell 0
  have m1 := hRD.cell 1
  have m2 := hRD.cell 2
  have f0 := hRD.frozen 0
  have f1 := hRD.frozen 1
  have f2 := hRD.frozen 2
  have L := bal (wr3 w3 (w.heap.size + 1) (.bool false) (.slice A3 (digs N).length c3) (.slice (some ⟨w3.heap.size, 0, none⟩) 1 1)) (.cells #[.int .u32 1] 60)
  have s6 := (hRD.put3 (.bool false) (.slice A3 (digs N).length c3) (.slice (some ⟨w3.heap.size, 0, none⟩) 1 1)).nx L
  have B6 := bt (put3_below (b := w.heap.size + 1) k6.2.2 (by omega) (.bool false) (.slice A3 (digs N).length c3) (.slice (some ⟨w3.heap.size, 0, none⟩) 1 1)) L
  have hb := k6.2.1.2
  have hb2 := hbk
  have Oa := (O6.put3 (b := w.heap.size + 1) hb2 (.bool false) (.slice A3 (digs N).length c3) (.slice (some ⟨w3.heap.size, 0, none⟩) 1 1)).below L (Nat.le_refl _)
  have Ob := litI (wr3 w3 (w.heap.size + 1) (.bool false) (.slice A3 (digs N).length c3) (.slice (some ⟨w3.heap.size, 0, none⟩) 1 1))
  rw [show (wr3 w3 (w.heap.size + 1) (.bool false) (.slice A3 (digs N).length c3) (.slice (some ⟨w3.heap.size, 0, none⟩) 1 1)).heap.size = w3.heap.size by simp [wr3]] at Ob
  have r0 := s6.cell 0
  have r1 := s6.cell 1
  have r2 := s6.cell 2
  unfold wr3 at s6 B6 Oa Ob r0 r1 r2
  go_wp2_with fail
  refine bodyPost_ret (v := (.agg #[.bool false, .slice A3 (digs N).length c3, .slice (some ⟨w3.heap.size, 0, none⟩) 1 1])) (by simp [results, r0, r1, r2, go_sem]) rfl ?_
  exact ⟨A3, c3, _, _, rfl, Oa.base_le (by omega), Ob.base_le (by omega), B6⟩


set_option maxRecDepth 100000 in
set_option maxHeartbeats 4000000 in
theorem down_down (A1 D1 : Option Addr) (c1 d1 : Nat) (a b : List Nat) (N R : Nat) (w : World) (h1 : RW w w.heap.size A1 c1 a) (h2 : RW w w.heap.size D1 d1 b)
    (hO : ∀ w', RW w' w'.heap.size A1 c1 a → RW w' w'.heap.size D1 d1 b → Calls Try.prog 87 #[.slice A1 a.length c1, .slice D1 b.length d1] w' (RetQ w' N R)) (hN : N < Wp 14000) (h0 : R = 0) :
    Calls Try.prog 56 #[.agg #[.bool true, .slice A1 a.length c1, .slice D1 b.length d1]] w (RetDn w true N) := by
  have k0 := S2.new w [.bool true, .slice A1 a.length c1, .slice D1 b.length d1] [.bool false, .slice none 0 0, .slice none 0 0] 24 24 3
  have i0 := k0.1.cell 0
  have i1 := k0.1.cell 1
  have i2 := k0.1.cell 2
  have C0 := k0.2.2
  have hbk := k0.2.1.2
  have lN := (digs_len_le (n := N)).2 hN
  subst h0
  have l0 : (digs 0).length = 0 := by rw [digs_zero]; rfl
  go_enter Try.func56, Try.ntmps56
  go_wp2_with fail
  refine (hO _ (st h1 C0) (st h2 C0)).mono ?_; rintro e w3 ⟨A3, c3, D3, d3, rfl, O3, P3, B3⟩
  have k3 := k0.nx B3
  have j0 := k3.1.cell 0
  clear i0 i1 i2
  rw [l0]
  have O6 := O3
  have k6 := k3
  have hRD := k6.2.1
  have j0 := k6.1.cell 0
  have m0 := hRD.cell 0
  have m1 := hRD.cell 1
  have m2 := hRD.cell 2
  have f0 := hRD.frozen 0
  have f1 := hRD.frozen 1
  have f2 := hRD.frozen 2
  have L := bal (wr3 w3 (w.heap.size + 1) (.bool true) (.slice A3 (digs N).length c3) (.slice (some ⟨w3.heap.size, 0, none⟩) 1 1)) (.cells #[.int .u32 1] 60)
  have s6 := (hRD.put3 (.bool true) (.slice A3 (digs N).length c3) (.slice (some ⟨w3.heap.size, 0, none⟩) 1 1)).nx L
  have B6 := bt (put3_below (b := w.heap.size + 1) k6.2.2 (by omega) (.bool true) (.slice A3 (digs N).length c3) (.slice (some ⟨w3.heap.size, 0, none⟩) 1 1)) L
  have hb := k6.2.1.2
  have hb2 := hbk
  have Oa := (O6.put3 (b := w.heap.size + 1) hb2 (.bool true) (.slice A3 (digs N).length c3) (.slice (some ⟨w3.heap.size, 0, none⟩) 1 1)).below L (Nat.le_refl _)
  have Ob := litI (wr3 w3 (w.heap.size + 1) (.bool true) (.slice A3 (digs N).length c3) (.slice (some ⟨w3.heap.size, 0, none⟩) 1 1))
  rw [show (wr3 w3 (w.heap.size + 1) (.bool true) (.slice A3 (digs N).length c3) (.slice (some ⟨w3.heap.size, 0, none⟩) 1 1)).heap.size = w3.heap.size by simp [wr3]] at Ob
  have r0 := s6.cell 0
  have r1 := s6.cell 1
  have r2 := s6.cell 2
  unfold wr3 at s6 B6 Oa Ob r0 r1 r2
  go_wp2_with fail
  refine bodyPost_ret (v := (.agg #[.bool true, .slice A3 (digs N).length c3, .slice (some ⟨w3.heap.size, 0, none⟩) 1 1])) (by simp [results, r0, r1, r2, go_sem]) rfl ?_
  exact ⟨A3, c3, _, _, rfl, Oa.base_le (by omega), Ob.base_le (by omega), B6⟩


set_option maxRecDepth 100000 in
set_option maxHeartbeats 4000000 in
theorem down_less (A1 D1 : Option Addr) (c1 d1 : Nat) (a b : List Nat) (N R : Nat) (w : World) (h1 : RW w w.heap.size A1 c1 a) (h2 : RW w w.heap.size D1 d1 b)
    (hO : ∀ w', RW w' w'.heap.size A1 c1 a → RW w' w'.heap.size D1 d1 b → Calls Try.prog 87 #[.slice A1 a.length c1, .slice D1 b.length d1] w' (RetQ w' N R)) (hN : N < Wp 14000) (h0 : R ≠ 0) :
    Calls Try.prog 56 #[.agg #[.bool true, .slice A1 a.length c1, .slice D1 b.length d1]] w (RetDn w true (N + 1)) := by
  have k0 := S2.new w [.bool true, .slice A1 a.length c1, .slice D1 b.length d1] [.bool false, .slice none 0 0, .slice none 0 0] 24 24 3
  have i0 := k0.1.cell 0
  have i1 := k0.1.cell 1
  have i2 := k0.1.cell 2
  have C0 := k0.2.2
  have hbk := k0.2.1.2
  have lN := (digs_len_le (n := N)).2 hN
  have l0 : (digs R).length ≠ 0 := fun h => h0 (digs_len0.1 h)
  generalize hlr : (digs R).length = lr at *
  have l1 : (0 : Int) < (lr : Int) := by omega
  have l2 : decide ((0 : Int) < (lr : Int)) = true := by simp; omega
  go_enter Try.func56, Try.ntmps56
  go_wp2_with fail
  refine (hO _ (st h1 C0) (st h2 C0)).mono ?_; rintro e w3 ⟨A3, c3, D3, d3, rfl, O3, P3, B3⟩
  have k3 := k0.nx B3
  have j0 := k3.1.cell 0
  clear i0 i1 i2
  rw [hlr]
  have L3 := bal w3 (.cells #[.int .u32 (1 : Nat)] 60)
  have r1 := RW.one w3 60 (show 1 < 4294967296 by omega)
  have hP := rplus_any A3 (some ⟨w3.heap.size, 0, none⟩) c3 1 (digs N).length 1 (digs N) [1] _ rfl rfl (st O3.rw L3) (r1.more (by simp)) (by omega) (by simp)
  rw [val_digs, val_one] at hP
  go_wp2_with fail
  refine hP.mono ?_; rintro e w5 ⟨A6, c6, rfl, O6, B5⟩
  have hb5 := (k3.nx L3).2.1.2
  have k6 := (k3.nx L3).nx B5
  clear j0 r1 hP hlr l1 l2 l0
  have hRD := k6.2.1
  have j0 := k6.1.cell 0
  have m0 := hRD.cell 0
  have m1 := hRD.cell 1
  have m2 := hRD.cell 2
  have f0 := hRD.frozen 0
  have f1 := hRD.frozen 1
  have f2 := hRD.frozen 2
  have L := bal (wr3 w5 (w.heap.size + 1) (.bool true) (.slice A6 (digs (N + 1)).length c6) (.slice (some ⟨w5.heap.size, 0, none⟩) 1 1)) (.cells #[.int .u32 1] 60)
  have s6 := (hRD.put3 (.bool true) (.slice A6 (digs (N + 1)).length c6) (.slice (some ⟨w5.heap.size, 0, none⟩) 1 1)).nx L
  have B6 := bt (put3_below (b := w.heap.size + 1) k6.2.2 (by omega) (.bool true) (.slice A6 (digs (N + 1)).length c6) (.slice (some ⟨w5.heap.size, 0, none⟩) 1 1)) L
  have hb := k6.2.1.2
  have hb2 := hb5
  have Oa := (O6.put3 (b := w.heap.size + 1) hb2 (.bool true) (.slice A6 (digs (N + 1)).length c6) (.slice (some ⟨w5.heap.size, 0, none⟩) 1 1)).below L (Nat.le_refl _)
  have Ob := litI (wr3 w5 (w.heap.size + 1) (.bool true) (.slice A6 (digs (N + 1)).length c6) (.slice (some ⟨w5.heap.size, 0, none⟩) 1 1))
  rw [show (wr3 w5 (w.heap.size + 1) (.bool true) (.slice A6 (digs (N + 1)).length c6) (.slice (some ⟨w5.heap.size, 0, none⟩) 1 1)).heap.size = w5.heap.size by simp [wr3]] at Ob
  have r0 := s6.cell 0
  have r1 := s6.cell 1
  have r2 := s6.cell 2
  unfold wr3 at s6 B6 Oa Ob r0 r1 r2
  go_wp2_with fail
  refine bodyPost_ret (v := (.agg #[.bool true, .slice A6 (digs (N + 1)).length c6, .slice (some ⟨w5.heap.size, 0, none⟩) 1 1])) (by simp [results, r0, r1, r2, go_sem]) rfl ?_
  exact ⟨A6, c6, _, _, rfl, Oa.base_le (by omega), Ob.base_le (by omega), B6⟩


theorem natAbs_sgn (s : Bool) (k : Nat) : (sgn s k).natAbs = k := by
  cases s
  · rw [sgn_false]; omega
  · rw [sgn_true]; omega
theorem flr_neg (x : Rat) : decide (flr x < 0) = qn x := by
  unfold flr
  cases hs : qn x with
  | false =>
    rw [sgn_false]
    exact decide_eq_false (by omega)
  | true =>
    rw [sgn_true]
    have h0 : qt x ≠ 0 := fun h => by rw [qn_zero h] at hs; exact absurd hs (by simp)
    have hd := qd_pos x
    have hm := Nat.div_add_mod (qt x) (qd x)
    apply decide_eq_true
    by_cases hr : qt x % qd x = 0
    · rw [if_neg (by simp [hr])]
      have : qt x / qd x ≠ 0 := fun h => by rw [h, hr, Nat.mul_zero] at hm; omega
      generalize qt x / qd x = k at *
      omega
    · rw [if_pos ⟨rfl, hr⟩]
      generalize qt x / qd x = k at *
      omega
theorem refdown_any (V : Value) (x : Rat) (w : World) (hx : RQ w w.heap.size V x) (hb : qw x ≤ 14000) :
    Calls Try.prog 56 #[V] w (RetR w ((flr x : Int) : Rat)) := by
  obtain ⟨A, c, D, d, rfl, r1, r2⟩ := hx
  have t1 := qw_t x
  have t2 := qw_d x
  have hO : ∀ w', RW w' w'.heap.size A c (digs (qt x)) → RW w' w'.heap.size D d (digs (qd x)) → Calls Try.prog 87 #[.slice A (digs (qt x)).length c, .slice D (digs (qd x)).length d] w' (RetQ w' (qt x / qd x) (qt x % qd x)) := fun w' h1 h2 => by
    have h := rover_any A D c d _ _ _ _ w' rfl rfl h1 h2 (Nrm_digs _) (by rw [val_digs]; have := qd_pos x; omega) (by omega) (by omega)
    rw [val_digs, val_digs] at h
    exact h
  have hN : qt x / qd x < Wp 14000 := Nat.lt_of_le_of_lt (Nat.div_le_self _ _) (digs_len_le.1 (Nat.le_trans t1 hb))
  have main : Calls Try.prog 56 #[.agg #[.bool (qn x), .slice A (digs (qt x)).length c, .slice D (digs (qd x)).length d]] w (RetDn w (qn x) (if qn x = true ∧ qt x % qd x ≠ 0 then qt x / qd x + 1 else qt x / qd x)) := by
    cases hs : qn x with
    | false =>
      rw [if_neg (by simp)]
      exact down_up A D c d _ _ _ _ w r1 r2 hO hN
    | true =>
      by_cases h0 : qt x % qd x = 0
      · rw [if_neg (by simp [h0])]
        exact down_down A D c d _ _ _ _ w r1 r2 hO hN h0
      · rw [if_pos ⟨rfl, h0⟩]
        exact down_less A D c d _ _ _ _ w r1 r2 hO hN h0
  refine main.mono ?_
  rintro e w' ⟨A, c, D, d, rfl, O, P, B⟩
  have e1 : qd ((flr x : Int) : Rat) = 1 := qd_int _
  have e2 : qt ((flr x : Int) : Rat) = (if qn x = true ∧ qt x % qd x ≠ 0 then qt x / qd x + 1 else qt x / qd x) := by
    rw [qt_int]; unfold flr; rw [natAbs_sgn]
  have e3 : qn ((flr x : Int) : Rat) = qn x := by
    rw [qn_int]
    exact flr_neg x
  refine ⟨A, c, D, d, ?_, ?_, ?_, B⟩
  · rw [e1, e2, e3, digs_one1]; rfl
  · rw [e2]; exact O
  · rw [e1, digs_one1]; exact P

end Go.Proofs.Ytdkejndagicgjaa
