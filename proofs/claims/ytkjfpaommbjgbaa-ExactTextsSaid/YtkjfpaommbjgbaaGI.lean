/- Merged texts: ExD, ExE, ExG, ExX, ExY. -/
import Derived.Test.YtkjfpaommbjgbaaGG
import Derived.Test.YtkjfpaommbjgbaaGH
import Derived.Test.YtkjfpaommbjgbaaGF
import Derived.Test.YtkjfpaommbjgbaaGC
namespace Go.Proofs.Ytkjfpaommbjgbaa
open Go.RowKit

/-- a number made within a region, put there: what is kept -/
theorem S3.wr {w w1 : World} {b n g : Nat} {l1 l2 : List Value} (h : S3 w b l1 l2 n w1) (hg : b + 2 < g) (x y z x' y' z' : Value) : S3 w b l1 l2 n (Go.Proofs.Ytkjfpaommbjgbaa.wr6 w1 g x y z x' y' z') :=
  ⟨h.1.wr6 (by omega) x y z x' y' z', h.2.1.wr6 (by omega) x y z x' y' z', (h.2.2.1.sb.wr6 (by omega) x y z x' y' z').rc (by simp), wr6_below h.2.2.2 (by omega) x y z x' y' z'⟩
theorem S3.re {w w1 : World} {b n : Nat} {l1 l2 : List Value} {o o' : Obj} (h : S3 w b l1 l2 n (w1.alloc o)) (hg : b + 2 < w1.heap.size) : S3 w b l1 l2 n (w1.alloc o') := by
  have e : ∀ (q : Obj) (k : Nat), k < w1.heap.size → (w1.alloc q).heap[k]? = w1.heap[k]? := fun q k hk => (bal w1 q).block k hk
  have hc : ∀ (p : Addr), p.block < w1.heap.size → (w1.alloc o').cell? p = (w1.alloc o).cell? p := fun p hp => ((bal w1 o').cell hp).trans ((bal w1 o).cell hp).symm
  have hf : ∀ (p : Addr), p.block < w1.heap.size → (w1.alloc o').frozen? p = (w1.alloc o).frozen? p := fun p hp => ((bal w1 o').frozen hp).trans ((bal w1 o).frozen hp).symm
  have hs : ∀ (k : Nat) (vs : List Value), k < w1.heap.size → SB (w1.alloc o) k vs → SB (w1.alloc o') k vs := fun k vs hk h =>
    ⟨fun i v hv => ⟨(hc ⟨k, i, none⟩ hk).trans (h.1 i v hv).1, (hf ⟨k, i, none⟩ hk).trans (h.1 i v hv).2⟩, by simp; omega⟩
  refine ⟨hs _ _ (by omega) h.1, hs _ _ (by omega) h.2.1, (hs _ _ hg h.2.2.1.sb).rc (by simp), ?_⟩
  have h3 := h.2.2.2
  exact ⟨h3.os, h3.tape, h3.output, by have := h3.size; simpa using this, fun k hk => by
    rw [e o' k (by omega), ← e o k (by omega)]; exact h3.block k hk⟩
theorem SB.put6 {w : World} {b : Nat} {a0 a1 a2 a3 a4 a5 : Value} (h : SB w b [a0, a1, a2, a3, a4, a5]) (x y z x' y' z' : Value) : SB (Go.Proofs.Ytkjfpaommbjgbaa.wr6 w b x y z x' y' z') b [x, y, z, x', y', z'] :=
  (((((h.set 0 x).set 1 y).set 2 z).set 3 x').set 4 y').set 5 z'
theorem sgt6 {w : World} {g : Nat} {l : List Value} (h : SB w g l) {x y z x' y' z' : Value} : g < (Go.Proofs.Ytkjfpaommbjgbaa.wr6 w g x y z x' y' z').heap.size := by simpa [World.setCell] using h.2
theorem RN.st {w w' : World} {V : Value} {x y : Rat} (h : RN w w.heap.size V x y) (hb : Below w.heap.size w w') : RN w' w'.heap.size V x y := VN.st h hb
theorem gtz {w : World} {n g : Nat} {l : List Value} (_ : SB w g l) (h : n + 2 < g) : n + 2 < g := h
/-- a number is 0 -/
def zeroB (r i : Rw) : Bool := decide (r.a.length = 0) && decide (i.a.length = 0)
theorem zeroB_q {x y : Rat} : zeroB (rwq x) (rwq y) = decide (x = 0 ∧ y = 0) := by
  have h : ∀ q : Rat, decide ((digs (qt q)).length = 0) = decide (q = 0) := fun q => decide_eq_decide.2 ⟨fun h => qt_zero.1 (digs_len0.1 h), fun h => digs_len0.2 (qt_zero.2 h)⟩
  unfold zeroB rwq
  dsimp only
  rw [h, h, Bool.decide_and]
theorem nB_qq0 {p q : Rat} (h1 : qw p ≤ 512) (h2 : qw q ≤ 512) : nB (rwq p) (rwq q) = true := nB_qq h1 h2


set_option maxHeartbeats 4000000 in
theorem zero_any (V : Value) (r i : Rw) (w : World) (hV : VN w w.heap.size V r i) :
    Calls Try.prog 41 #[V] w fun e w' => e = .returned (.bool (zeroB r i)) ∧ Below w.heap.size w w' := by
  obtain ⟨s1, a1, b1⟩ := r
  obtain ⟨s2, a2, b2⟩ := i
  obtain ⟨A1, c1, D1, d1, A2, c2, D2, d2, rfl, p1, p2, p3, p4⟩ := hV
  dsimp only [zeroB] at p1 p2 p3 p4 ⊢
  have sg := SB.new w [.bool s1, .slice A1 a1.length c1, .slice D1 b1.length d1, .bool s2, .slice A2 a2.length c2, .slice D2 b2.length d2] 26
  have B1 := bal w (.cells #[.bool s1, .slice A1 a1.length c1, .slice D1 b1.length d1, .bool s2, .slice A2 a2.length c2, .slice D2 b2.length d2] 26)
  have m0 := sg.cell 1
  have m1 := sg.cell 4
  generalize hn : a1.length = n at *
  generalize hm : a2.length = m at *
  clear hn hm p1 p2 p3 p4 sg
  go_enter Try.func41, Try.ntmps41
  by_cases h1 : n = 0
  · subst h1
    by_cases h2 : m = 0
    · subst h2
      go_wp2_with fail
      go_ret
      exact ⟨by simp, B1⟩
    · have h3 : ((m : Int) == 0) = false := by simpa using h2
      go_wp2_with fail
      go_ret
      exact ⟨by simp, B1⟩
  · have h3 : ((n : Int) == 0) = false := by simpa using h1
    go_wp2_with fail
    go_ret
    exact ⟨by simp [h1], B1⟩


set_option maxHeartbeats 4000000 in
theorem ediv_bad (V U : Value) (r i r' i' : Rw) (w : World) (hV : VN w w.heap.size V r i) (hU : VN w w.heap.size U r' i') (hb : ¬ (nB r i = true ∧ nB r' i' = true)) :
    Calls Try.prog 18 #[V, U] w (RetNE w (rw0, rw0, 2)) := by
  obtain ⟨s1, a1, b1⟩ := r
  obtain ⟨s2, a2, b2⟩ := i
  obtain ⟨t1, g1, h1⟩ := r'
  obtain ⟨t2, g2, h2⟩ := i'
  obtain ⟨A1, c1, D1, d1, A2, c2, D2, d2, rfl, p1, p2, p3, p4⟩ := hV
  obtain ⟨E1, e1, F1, f1, E2, e2, F2, f2, rfl, p5, p6, p7, p8⟩ := hU
  dsimp only at p1 p2 p3 p4 p5 p6 p7 p8 ⊢
  have k0 := S3.new w [.bool s1, .slice A1 a1.length c1, .slice D1 b1.length d1, .bool s2, .slice A2 a2.length c2, .slice D2 b2.length d2] [.bool t1, .slice E1 g1.length e1, .slice F1 h1.length f1, .bool t2, .slice E2 g2.length e2, .slice F2 h2.length f2] [.bool false, .slice none 0 0, .slice none 0 0, .bool false, .slice none 0 0, .slice none 0 0] 26 26 26 6
  have C0 := k0.2.2.2
  have z3 : (((w.alloc (.cells #[.bool s1, .slice A1 a1.length c1, .slice D1 b1.length d1, .bool s2, .slice A2 a2.length c2, .slice D2 b2.length d2] 26)).alloc (.cells #[.bool t1, .slice E1 g1.length e1, .slice F1 h1.length f1, .bool t2, .slice E2 g2.length e2, .slice F2 h2.length f2] 26)).alloc (.cells #[.bool false, .slice none 0 0, .slice none 0 0, .bool false, .slice none 0 0, .slice none 0 0] 26)).heap.size = w.heap.size + 3 := by simp
  have Bs := bal (((w.alloc (.cells #[.bool s1, .slice A1 a1.length c1, .slice D1 b1.length d1, .bool s2, .slice A2 a2.length c2, .slice D2 b2.length d2] 26)).alloc (.cells #[.bool t1, .slice E1 g1.length e1, .slice F1 h1.length f1, .bool t2, .slice E2 g2.length e2, .slice F2 h2.length f2] 26)).alloc (.cells #[.bool false, .slice none 0 0, .slice none 0 0, .bool false, .slice none 0 0, .slice none 0 0] 26)) (.cells #[.bool s1, .slice A1 a1.length c1, .slice D1 b1.length d1, .bool s2, .slice A2 a2.length c2, .slice D2 b2.length d2, .bool t1, .slice E1 g1.length e1, .slice F1 h1.length f1, .bool t2, .slice E2 g2.length e2, .slice F2 h2.length f2] 26)
  have sg := SB.new (((w.alloc (.cells #[.bool s1, .slice A1 a1.length c1, .slice D1 b1.length d1, .bool s2, .slice A2 a2.length c2, .slice D2 b2.length d2] 26)).alloc (.cells #[.bool t1, .slice E1 g1.length e1, .slice F1 h1.length f1, .bool t2, .slice E2 g2.length e2, .slice F2 h2.length f2] 26)).alloc (.cells #[.bool false, .slice none 0 0, .slice none 0 0, .bool false, .slice none 0 0, .slice none 0 0] 26)) [.bool s1, .slice A1 a1.length c1, .slice D1 b1.length d1, .bool s2, .slice A2 a2.length c2, .slice D2 b2.length d2, .bool t1, .slice E1 g1.length e1, .slice F1 h1.length f1, .bool t2, .slice E2 g2.length e2, .slice F2 h2.length f2] 26
  rw [z3] at sg
  have C1 := bt C0 Bs
  have k1 := k0.nx Bs
  have hck := check2x_any false (w.heap.size + 3) _ _ _ _ _ _ _ _ _ _ _ _ _ _ _ _ _ _ _ _ _ _ _ _ _ _ _ _ _ sg (st p1 C1) (st p2 C1) (st p3 C1) (st p4 C1) (st p5 C1) (st p6 C1) (st p7 C1) (st p8 C1)
  have hc2 : chkN2 false ⟨s1, a1, b1⟩ ⟨s2, a2, b2⟩ ⟨t1, g1, h1⟩ ⟨t2, g2, h2⟩ = 2 := by unfold chkN2; rw [if_neg hb]
  rw [hc2] at hck
  clear hb hc2 sg
  go_enter Try.func18, Try.ntmps18
  go_wp2_with fail
  refine hck.mono ?_; rintro e w3 ⟨rfl, B3⟩
  have k3 := k1.nx B3
  have hRC := k3.2.2.1
  go_wp2_with (refine wp_st6 rfl (.tmp 4) (.tmp 14) rfl _ rfl _ _ _ _ _ _ rfl hRC rfl rfl rfl rfl rfl rfl ?_)
  have s6 := hRC.put6 (.bool false) (.slice none 0 0) (.slice none 0 0) (.bool false) (.slice none 0 0) (.slice none 0 0)
  have B6 := wr6_below (b := w.heap.size + 2) k3.2.2.2 (by omega) (.bool false) (.slice none 0 0) (.slice none 0 0) (.bool false) (.slice none 0 0) (.slice none 0 0)
  have r0' := s6.cell 0
  have r1' := s6.cell 1
  have r2' := s6.cell 2
  have r3' := s6.cell 3
  have r4' := s6.cell 4
  have r5' := s6.cell 5
  refine bodyPost_ret (v := .tuple #[.agg #[.bool false, .slice none 0 0, .slice none 0 0, .bool false, .slice none 0 0, .slice none 0 0], .int .i64 2]) (by simp [results, r0', r1', r2', r3', r4', r5', go_sem]) rfl ?_
  exact retNE_nil 2 B6


set_option maxRecDepth 100000 in
set_option maxHeartbeats 16000000 in
theorem ediv_zero (V U : Value) (x y u v : Rat) (w : World) (hV : RN w w.heap.size V x y) (hU : RN w w.heap.size U u v) (bx : qw x ≤ 512) (bY : qw y ≤ 512) (bu : qw u ≤ 512) (bv : qw v ≤ 512) (hz : u = 0 ∧ v = 0) :
    Calls Try.prog 18 #[V, U] w (RetNE w (rw0, rw0, 3)) := by
  obtain ⟨A1, c1, D1, d1, A2, c2, D2, d2, rfl, p1, p2, p3, p4⟩ := hV
  obtain ⟨E1, e1, F1, f1, E2, e2, F2, f2, rfl, p5, p6, p7, p8⟩ := hU
  simp only [rwq] at p1 p2 p3 p4 p5 p6 p7 p8 ⊢
  have k0 := S3.new w [.bool (qn x), .slice A1 (digs (qt x)).length c1, .slice D1 (digs (qd x)).length d1, .bool (qn y), .slice A2 (digs (qt y)).length c2, .slice D2 (digs (qd y)).length d2] [.bool (qn u), .slice E1 (digs (qt u)).length e1, .slice F1 (digs (qd u)).length f1, .bool (qn v), .slice E2 (digs (qt v)).length e2, .slice F2 (digs (qd v)).length f2] [.bool false, .slice none 0 0, .slice none 0 0, .bool false, .slice none 0 0, .slice none 0 0] 26 26 26 6
  have C0 := k0.2.2.2
  have z3 : (((w.alloc (.cells #[.bool (qn x), .slice A1 (digs (qt x)).length c1, .slice D1 (digs (qd x)).length d1, .bool (qn y), .slice A2 (digs (qt y)).length c2, .slice D2 (digs (qd y)).length d2] 26)).alloc (.cells #[.bool (qn u), .slice E1 (digs (qt u)).length e1, .slice F1 (digs (qd u)).length f1, .bool (qn v), .slice E2 (digs (qt v)).length e2, .slice F2 (digs (qd v)).length f2] 26)).alloc (.cells #[.bool false, .slice none 0 0, .slice none 0 0, .bool false, .slice none 0 0, .slice none 0 0] 26)).heap.size = w.heap.size + 3 := by simp
  have Bs := bal (((w.alloc (.cells #[.bool (qn x), .slice A1 (digs (qt x)).length c1, .slice D1 (digs (qd x)).length d1, .bool (qn y), .slice A2 (digs (qt y)).length c2, .slice D2 (digs (qd y)).length d2] 26)).alloc (.cells #[.bool (qn u), .slice E1 (digs (qt u)).length e1, .slice F1 (digs (qd u)).length f1, .bool (qn v), .slice E2 (digs (qt v)).length e2, .slice F2 (digs (qd v)).length f2] 26)).alloc (.cells #[.bool false, .slice none 0 0, .slice none 0 0, .bool false, .slice none 0 0, .slice none 0 0] 26)) (.cells #[.bool (qn x), .slice A1 (digs (qt x)).length c1, .slice D1 (digs (qd x)).length d1, .bool (qn y), .slice A2 (digs (qt y)).length c2, .slice D2 (digs (qd y)).length d2, .bool (qn u), .slice E1 (digs (qt u)).length e1, .slice F1 (digs (qd u)).length f1, .bool (qn v), .slice E2 (digs (qt v)).length e2, .slice F2 (digs (qd v)).length f2] 26)
  have sg := SB.new (((w.alloc (.cells #[.bool (qn x), .slice A1 (digs (qt x)).length c1, .slice D1 (digs (qd x)).length d1, .bool (qn y), .slice A2 (digs (qt y)).length c2, .slice D2 (digs (qd y)).length d2] 26)).alloc (.cells #[.bool (qn u), .slice E1 (digs (qt u)).length e1, .slice F1 (digs (qd u)).length f1, .bool (qn v), .slice E2 (digs (qt v)).length e2, .slice F2 (digs (qd v)).length f2] 26)).alloc (.cells #[.bool false, .slice none 0 0, .slice none 0 0, .bool false, .slice none 0 0, .slice none 0 0] 26)) [.bool (qn x), .slice A1 (digs (qt x)).length c1, .slice D1 (digs (qd x)).length d1, .bool (qn y), .slice A2 (digs (qt y)).length c2, .slice D2 (digs (qd y)).length d2, .bool (qn u), .slice E1 (digs (qt u)).length e1, .slice F1 (digs (qd u)).length f1, .bool (qn v), .slice E2 (digs (qt v)).length e2, .slice F2 (digs (qd v)).length f2] 26
  rw [z3] at sg
  have C1 := bt C0 Bs
  have k1 := k0.nx Bs
  have hck := check2x_any false (w.heap.size + 3) _ _ _ _ _ _ _ _ _ _ _ _ _ _ _ _ _ _ _ _ _ _ _ _ _ _ _ _ _ sg (st p1 C1) (st p2 C1) (st p3 C1) (st p4 C1) (st p5 C1) (st p6 C1) (st p7 C1) (st p8 C1)
  have hc2 : chkN2 false ⟨qn x, digs (qt x), digs (qd x)⟩ ⟨qn y, digs (qt y), digs (qd y)⟩ ⟨qn u, digs (qt u), digs (qd u)⟩ ⟨qn v, digs (qt v), digs (qd v)⟩ = 0 := by unfold chkN2; rw [if_pos ⟨nB_qq bx bY, nB_qq bu bv⟩, if_neg (by simp)]
  rw [hc2] at hck
  clear hc2 sg
  have hZ := fun w' h => zero_any (.agg #[.bool (qn u), .slice E1 (digs (qt u)).length e1, .slice F1 (digs (qd u)).length f1, .bool (qn v), .slice E2 (digs (qt v)).length e2, .slice F2 (digs (qd v)).length f2]) (rwq u) (rwq v) w' h
  rw [zeroB_q] at hZ
  rw [decide_eq_true hz] at hZ
  clear hz
  go_enter Try.func18, Try.ntmps18
  go_wp2_with fail
  refine hck.mono ?_; rintro e w3 ⟨rfl, B3⟩
  have k3 := k1.nx B3
  have C3 := k3.2.2.2
  have j0 := k3.2.1.cell 0
  have j1 := k3.2.1.cell 1
  have j2 := k3.2.1.cell 2
  have j3 := k3.2.1.cell 3
  have j4 := k3.2.1.cell 4
  have j5 := k3.2.1.cell 5
  go_wp2_with fail
  refine (hZ _ ⟨E1, e1, F1, f1, E2, e2, F2, f2, rfl, st p5 C3, st p6 C3, st p7 C3, st p8 C3⟩).mono ?_; rintro e w4 ⟨rfl, B4⟩
  have k4 := k3.nx B4
  have hRC := k4.2.2.1
  go_wp2_with (refine wp_st6 rfl (.tmp 4) (.tmp 18) rfl _ rfl _ _ _ _ _ _ rfl hRC rfl rfl rfl rfl rfl rfl ?_)
  have s6 := hRC.put6 (.bool false) (.slice none 0 0) (.slice none 0 0) (.bool false) (.slice none 0 0) (.slice none 0 0)
  have B6 := wr6_below (b := w.heap.size + 2) k4.2.2.2 (by omega) (.bool false) (.slice none 0 0) (.slice none 0 0) (.bool false) (.slice none 0 0) (.slice none 0 0)
  have r0' := s6.cell 0
  have r1' := s6.cell 1
  have r2' := s6.cell 2
  have r3' := s6.cell 3
  have r4' := s6.cell 4
  have r5' := s6.cell 5
  refine bodyPost_ret (v := .tuple #[.agg #[.bool false, .slice none 0 0, .slice none 0 0, .bool false, .slice none 0 0, .slice none 0 0], .int .i64 3]) (by simp [results, r0', r1', r2', r3', r4', r5', go_sem]) rfl ?_
  exact retNE_nil 3 B6

end Go.Proofs.Ytkjfpaommbjgbaa
namespace Go.Proofs.Ytkjfpaommbjgbaa
open Go.RowKit


set_option maxRecDepth 100000 in
set_option maxHeartbeats 16000000 in
theorem ediv_ok (V U : Value) (x y u v : Rat) (w : World) (hV : RN w w.heap.size V x y) (hU : RN w w.heap.size U u v) (bx : qw x ≤ 512) (bY : qw y ≤ 512) (bu : qw u ≤ 512) (bv : qw v ≤ 512) (hz : ¬ (u = 0 ∧ v = 0)) :
    Calls Try.prog 18 #[V, U] w (RetNE w (fitQ (x * (u * (u * u + v * v)⁻¹) + -(y * (-v * (u * u + v * v)⁻¹))) (x * (-v * (u * u + v * v)⁻¹) + y * (u * (u * u + v * v)⁻¹)))) := by
  obtain ⟨A1, c1, D1, d1, A2, c2, D2, d2, rfl, p1, p2, p3, p4⟩ := hV
  obtain ⟨E1, e1, F1, f1, E2, e2, F2, f2, rfl, p5, p6, p7, p8⟩ := hU
  simp only [rwq] at p1 p2 p3 p4 p5 p6 p7 p8 ⊢
  have k0 := S3.new w [.bool (qn x), .slice A1 (digs (qt x)).length c1, .slice D1 (digs (qd x)).length d1, .bool (qn y), .slice A2 (digs (qt y)).length c2, .slice D2 (digs (qd y)).length d2] [.bool (qn u), .slice E1 (digs (qt u)).length e1, .slice F1 (digs (qd u)).length f1, .bool (qn v), .slice E2 (digs (qt v)).length e2, .slice F2 (digs (qd v)).length f2] [.bool false, .slice none 0 0, .slice none 0 0, .bool false, .slice none 0 0, .slice none 0 0] 26 26 26 6
  have C0 := k0.2.2.2
  have z3 : (((w.alloc (.cells #[.bool (qn x), .slice A1 (digs (qt x)).length c1, .slice D1 (digs (qd x)).length d1, .bool (qn y), .slice A2 (digs (qt y)).length c2, .slice D2 (digs (qd y)).length d2] 26)).alloc (.cells #[.bool (qn u), .slice E1 (digs (qt u)).length e1, .slice F1 (digs (qd u)).length f1, .bool (qn v), .slice E2 (digs (qt v)).length e2, .slice F2 (digs (qd v)).length f2] 26)).alloc (.cells #[.bool false, .slice none 0 0, .slice none 0 0, .bool false, .slice none 0 0, .slice none 0 0] 26)).heap.size = w.heap.size + 3 := by simp
  have Bs := bal (((w.alloc (.cells #[.bool (qn x), .slice A1 (digs (qt x)).length c1, .slice D1 (digs (qd x)).length d1, .bool (qn y), .slice A2 (digs (qt y)).length c2, .slice D2 (digs (qd y)).length d2] 26)).alloc (.cells #[.bool (qn u), .slice E1 (digs (qt u)).length e1, .slice F1 (digs (qd u)).length f1, .bool (qn v), .slice E2 (digs (qt v)).length e2, .slice F2 (digs (qd v)).length f2] 26)).alloc (.cells #[.bool false, .slice none 0 0, .slice none 0 0, .bool false, .slice none 0 0, .slice none 0 0] 26)) (.cells #[.bool (qn x), .slice A1 (digs (qt x)).length c1, .slice D1 (digs (qd x)).length d1, .bool (qn y), .slice A2 (digs (qt y)).length c2, .slice D2 (digs (qd y)).length d2, .bool (qn u), .slice E1 (digs (qt u)).length e1, .slice F1 (digs (qd u)).length f1, .bool (qn v), .slice E2 (digs (qt v)).length e2, .slice F2 (digs (qd v)).length f2] 26)
  have sg := SB.new (((w.alloc (.cells #[.bool (qn x), .slice A1 (digs (qt x)).length c1, .slice D1 (digs (qd x)).length d1, .bool (qn y), .slice A2 (digs (qt y)).length c2, .slice D2 (digs (qd y)).length d2] 26)).alloc (.cells #[.bool (qn u), .slice E1 (digs (qt u)).length e1, .slice F1 (digs (qd u)).length f1, .bool (qn v), .slice E2 (digs (qt v)).length e2, .slice F2 (digs (qd v)).length f2] 26)).alloc (.cells #[.bool false, .slice none 0 0, .slice none 0 0, .bool false, .slice none 0 0, .slice none 0 0] 26)) [.bool (qn x), .slice A1 (digs (qt x)).length c1, .slice D1 (digs (qd x)).length d1, .bool (qn y), .slice A2 (digs (qt y)).length c2, .slice D2 (digs (qd y)).length d2, .bool (qn u), .slice E1 (digs (qt u)).length e1, .slice F1 (digs (qd u)).length f1, .bool (qn v), .slice E2 (digs (qt v)).length e2, .slice F2 (digs (qd v)).length f2] 26
  rw [z3] at sg
  have C1 := bt C0 Bs
  have k1 := k0.nx Bs
  have hck := check2x_any false (w.heap.size + 3) _ _ _ _ _ _ _ _ _ _ _ _ _ _ _ _ _ _ _ _ _ _ _ _ _ _ _ _ _ sg (st p1 C1) (st p2 C1) (st p3 C1) (st p4 C1) (st p5 C1) (st p6 C1) (st p7 C1) (st p8 C1)
  have hc2 : chkN2 false ⟨qn x, digs (qt x), digs (qd x)⟩ ⟨qn y, digs (qt y), digs (qd y)⟩ ⟨qn u, digs (qt u), digs (qd u)⟩ ⟨qn v, digs (qt v), digs (qd v)⟩ = 0 := by unfold chkN2; rw [if_pos ⟨nB_qq bx bY, nB_qq bu bv⟩, if_neg (by simp)]
  rw [hc2] at hck
  clear hc2 sg
  have hZ := fun w' h => zero_any (.agg #[.bool (qn u), .slice E1 (digs (qt u)).length e1, .slice F1 (digs (qd u)).length f1, .bool (qn v), .slice E2 (digs (qt v)).length e2, .slice F2 (digs (qd v)).length f2]) (rwq u) (rwq v) w' h
  rw [zeroB_q] at hZ
  rw [decide_eq_false hz] at hZ
  have hI := fun V w' h => inverse_any V u v w' h hz (by omega) (by omega)
  obtain ⟨hn1, hn2⟩ := norm_pos' hz
  have m0 := qw_inv hn1 hn2
  have m1 := qw_mul u u
  have m2 := qw_mul v v
  have m3 := qw_add (u * u) (v * v)
  have m4 := qw_mul u (u * u + v * v)⁻¹
  have m5 := qw_mul (-v) (u * u + v * v)⁻¹
  rw [qw_neg] at m5
  have mp : qw (u * (u * u + v * v)⁻¹) ≤ 3000 := by omega
  have mq : qw (-v * (u * u + v * v)⁻¹) ≤ 3000 := by omega
  clear m0 m1 m2 m3 m4 m5 hn1 hn2 hz
  generalize (u * (u * u + v * v)⁻¹) = p at *
  generalize (-v * (u * u + v * v)⁻¹) = q at *
  have hT := fun V U w' h1 h2 => times_rat V U x y p q w' h1 h2 (by omega) (by omega) (by omega) (by omega)
  have hF := fun V U w' h1 h2 => efit_any V U (x * p + -(y * q)) (x * q + y * p) w' h1 h2
  generalize (x * p + -(y * q)) = X at *
  generalize (x * q + y * p) = Y at *
  generalize fitQ X Y = ft at *
  obtain ⟨fr, fi, fk⟩ := ft
  clear bx bY bu bv mp mq
  have conjS : ∀ w', S3 w w.heap.size [.bool (qn x), .slice A1 (digs (qt x)).length c1, .slice D1 (digs (qd x)).length d1, .bool (qn y), .slice A2 (digs (qt y)).length c2, .slice D2 (digs (qd y)).length d2] [.bool (qn u), .slice E1 (digs (qt u)).length e1, .slice F1 (digs (qd u)).length f1, .bool (qn v), .slice E2 (digs (qt v)).length e2, .slice F2 (digs (qd v)).length f2] 6 w' → w'.cell? ⟨w.heap.size, 0, none⟩ = some (.bool (qn x)) ∧ w'.cell? ⟨w.heap.size, 1, none⟩ = some (.slice A1 (digs (qt x)).length c1) ∧ w'.cell? ⟨w.heap.size, 2, none⟩ = some (.slice D1 (digs (qd x)).length d1) ∧ w'.cell? ⟨w.heap.size, 3, none⟩ = some (.bool (qn y)) ∧ w'.cell? ⟨w.heap.size, 4, none⟩ = some (.slice A2 (digs (qt y)).length c2) ∧ w'.cell? ⟨w.heap.size, 5, none⟩ = some (.slice D2 (digs (qd y)).length d2) ∧ w'.cell? ⟨w.heap.size + 1, 0, none⟩ = some (.bool (qn u)) ∧ w'.cell? ⟨w.heap.size + 1, 1, none⟩ = some (.slice E1 (digs (qt u)).length e1) ∧ w'.cell? ⟨w.heap.size + 1, 2, none⟩ = some (.slice F1 (digs (qd u)).length f1) ∧ w'.cell? ⟨w.heap.size + 1, 3, none⟩ = some (.bool (qn v)) ∧ w'.cell? ⟨w.heap.size + 1, 4, none⟩ = some (.slice E2 (digs (qt v)).length e2) ∧ w'.cell? ⟨w.heap.size + 1, 5, none⟩ = some (.slice F2 (digs (qd v)).length f2) ∧ w'.cell? ⟨w.heap.size + 2, 0, none⟩ = some (cv w' (w.heap.size + 2) 0) ∧ w'.frozen? ⟨w.heap.size + 2, 0, none⟩ = false ∧ w'.cell? ⟨w.heap.size + 2, 1, none⟩ = some (cv w' (w.heap.size + 2) 1) ∧ w'.frozen? ⟨w.heap.size + 2, 1, none⟩ = false ∧ w'.cell? ⟨w.heap.size + 2, 2, none⟩ = some (cv w' (w.heap.size + 2) 2) ∧ w'.frozen? ⟨w.heap.size + 2, 2, none⟩ = false ∧ w'.cell? ⟨w.heap.size + 2, 3, none⟩ = some (cv w' (w.heap.size + 2) 3) ∧ w'.frozen? ⟨w.heap.size + 2, 3, none⟩ = false ∧ w'.cell? ⟨w.heap.size + 2, 4, none⟩ = some (cv w' (w.heap.size + 2) 4) ∧ w'.frozen? ⟨w.heap.size + 2, 4, none⟩ = false ∧ w'.cell? ⟨w.heap.size + 2, 5, none⟩ = some (cv w' (w.heap.size + 2) 5) ∧ w'.frozen? ⟨w.heap.size + 2, 5, none⟩ = false ∧ S3 w w.heap.size [.bool (qn x), .slice A1 (digs (qt x)).length c1, .slice D1 (digs (qd x)).length d1, .bool (qn y), .slice A2 (digs (qt y)).length c2, .slice D2 (digs (qd y)).length d2] [.bool (qn u), .slice E1 (digs (qt u)).length e1, .slice F1 (digs (qd u)).length f1, .bool (qn v), .slice E2 (digs (qt v)).length e2, .slice F2 (digs (qd v)).length f2] 6 w' := fun w' h => ⟨h.1.cell 0, h.1.cell 1, h.1.cell 2, h.1.cell 3, h.1.cell 4, h.1.cell 5, h.2.1.cell 0, h.2.1.cell 1, h.2.1.cell 2, h.2.1.cell 3, h.2.1.cell 4, h.2.1.cell 5, h.2.2.1.cell 0, h.2.2.1.frozen 0, h.2.2.1.cell 1, h.2.2.1.frozen 1, h.2.2.1.cell 2, h.2.2.1.frozen 2, h.2.2.1.cell 3, h.2.2.1.frozen 3, h.2.2.1.cell 4, h.2.2.1.frozen 4, h.2.2.1.cell 5, h.2.2.1.frozen 5, h⟩
  go_enter Try.func18, Try.ntmps18
  go_wp2_with fail
  refine hck.mono ?_; rintro e w3 ⟨rfl, B3⟩
  have k3 := k1.nx B3
  have C3 := k3.2.2.2
  have j0 := k3.2.1.cell 0
  have j1 := k3.2.1.cell 1
  have j2 := k3.2.1.cell 2
  have j3 := k3.2.1.cell 3
  have j4 := k3.2.1.cell 4
  have j5 := k3.2.1.cell 5
  go_wp2_with fail
  refine (hZ _ ⟨E1, e1, F1, f1, E2, e2, F2, f2, rfl, st p5 C3, st p6 C3, st p7 C3, st p8 C3⟩).mono ?_; rintro e w4 ⟨rfl, B4⟩
  have k4 := k3.nx B4
  have z4 := k4.2.2.1.2
  go_upto_region 6 with fail
  go_cut [7] (fun s7 wx => ∃ (g : Nat) (A : Option Addr) (c : Nat) (D : Option Addr) (d : Nat) (E : Option Addr) (e : Nat) (F : Option Addr) (f : Nat), s7 = .pointer (some ⟨g, 0, none⟩) ∧ SB wx g [.bool (qn X), .slice A (digs (qt X)).length c, .slice D (digs (qd X)).length d, .bool (qn Y), .slice E (digs (qt Y)).length e, .slice F (digs (qd Y)).length f] ∧ S3 w w.heap.size [.bool (qn x), .slice A1 (digs (qt x)).length c1, .slice D1 (digs (qd x)).length d1, .bool (qn y), .slice A2 (digs (qt y)).length c2, .slice D2 (digs (qd y)).length d2] [.bool (qn u), .slice E1 (digs (qt u)).length e1, .slice F1 (digs (qd u)).length f1, .bool (qn v), .slice E2 (digs (qt v)).length e2, .slice F2 (digs (qd v)).length f2] 6 wx ∧ w.heap.size + 2 < g ∧ RW wx wx.heap.size A c (digs (qt X)) ∧ RW wx wx.heap.size D d (digs (qd X)) ∧ RW wx wx.heap.size E e (digs (qt Y)) ∧ RW wx wx.heap.size F f (digs (qd Y)))
  case first =>
    have k4d := k4.dr
    have k4s := And.intro (k4d.1.cell 0) (And.intro (k4d.1.cell 1) (And.intro (k4d.1.cell 2) (And.intro (k4d.1.cell 3) (And.intro (k4d.1.cell 4) (And.intro (k4d.1.cell 5) (And.intro (k4d.2.1.cell 0) (And.intro (k4d.2.1.cell 1) (And.intro (k4d.2.1.cell 2) (And.intro (k4d.2.1.cell 3) (And.intro (k4d.2.1.cell 4) (And.intro (k4d.2.1.cell 5) (And.intro (k4d.2.2.1.cell 0) (And.intro (k4d.2.2.1.frozen 0) (And.intro (k4d.2.2.1.cell 1) (And.intro (k4d.2.2.1.frozen 1) (And.intro (k4d.2.2.1.cell 2) (And.intro (k4d.2.2.1.frozen 2) (And.intro (k4d.2.2.1.cell 3) (And.intro (k4d.2.2.1.frozen 3) (And.intro (k4d.2.2.1.cell 4) (And.intro (k4d.2.2.1.frozen 4) (And.intro (k4d.2.2.1.cell 5) (And.intro (k4d.2.2.1.frozen 5) (k4d))))))))))))))))))))))))
    go_region_held3 (fun w' => w'.cell? ⟨w.heap.size, 0, none⟩ = some (.bool (qn x)) ∧ w'.cell? ⟨w.heap.size, 1, none⟩ = some (.slice A1 (digs (qt x)).length c1) ∧ w'.cell? ⟨w.heap.size, 2, none⟩ = some (.slice D1 (digs (qd x)).length d1) ∧ w'.cell? ⟨w.heap.size, 3, none⟩ = some (.bool (qn y)) ∧ w'.cell? ⟨w.heap.size, 4, none⟩ = some (.slice A2 (digs (qt y)).length c2) ∧ w'.cell? ⟨w.heap.size, 5, none⟩ = some (.slice D2 (digs (qd y)).length d2) ∧ w'.cell? ⟨w.heap.size + 1, 0, none⟩ = some (.bool (qn u)) ∧ w'.cell? ⟨w.heap.size + 1, 1, none⟩ = some (.slice E1 (digs (qt u)).length e1) ∧ w'.cell? ⟨w.heap.size + 1, 2, none⟩ = some (.slice F1 (digs (qd u)).length f1) ∧ w'.cell? ⟨w.heap.size + 1, 3, none⟩ = some (.bool (qn v)) ∧ w'.cell? ⟨w.heap.size + 1, 4, none⟩ = some (.slice E2 (digs (qt v)).length e2) ∧ w'.cell? ⟨w.heap.size + 1, 5, none⟩ = some (.slice F2 (digs (qd v)).length f2) ∧ w'.cell? ⟨w.heap.size + 2, 0, none⟩ = some (cv w' (w.heap.size + 2) 0) ∧ w'.frozen? ⟨w.heap.size + 2, 0, none⟩ = false ∧ w'.cell? ⟨w.heap.size + 2, 1, none⟩ = some (cv w' (w.heap.size + 2) 1) ∧ w'.frozen? ⟨w.heap.size + 2, 1, none⟩ = false ∧ w'.cell? ⟨w.heap.size + 2, 2, none⟩ = some (cv w' (w.heap.size + 2) 2) ∧ w'.frozen? ⟨w.heap.size + 2, 2, none⟩ = false ∧ w'.cell? ⟨w.heap.size + 2, 3, none⟩ = some (cv w' (w.heap.size + 2) 3) ∧ w'.frozen? ⟨w.heap.size + 2, 3, none⟩ = false ∧ w'.cell? ⟨w.heap.size + 2, 4, none⟩ = some (cv w' (w.heap.size + 2) 4) ∧ w'.frozen? ⟨w.heap.size + 2, 4, none⟩ = false ∧ w'.cell? ⟨w.heap.size + 2, 5, none⟩ = some (cv w' (w.heap.size + 2) 5) ∧ w'.frozen? ⟨w.heap.size + 2, 5, none⟩ = false ∧ S3 w w.heap.size [.bool (qn x), .slice A1 (digs (qt x)).length c1, .slice D1 (digs (qd x)).length d1, .bool (qn y), .slice A2 (digs (qt y)).length c2, .slice D2 (digs (qd y)).length d2] [.bool (qn u), .slice E1 (digs (qt u)).length e1, .slice F1 (digs (qd u)).length f1, .bool (qn v), .slice E2 (digs (qt v)).length e2, .slice F2 (digs (qd v)).length f2] 6 w')
      (first
        | with_reducible exact kws.out
        | with_reducible exact k4s
        | (have s1 := (by with_reducible assumption : _ ∧ _ ∧ _ ∧ _ ∧ _ ∧ _ ∧ _ ∧ _ ∧ _ ∧ _ ∧ _ ∧ _ ∧ _ ∧ _ ∧ _ ∧ _ ∧ _ ∧ _ ∧ _ ∧ _ ∧ _ ∧ _ ∧ _ ∧ _ ∧ S3 w w.heap.size [.bool (qn x), .slice A1 (digs (qt x)).length c1, .slice D1 (digs (qd x)).length d1, .bool (qn y), .slice A2 (digs (qt y)).length c2, .slice D2 (digs (qd y)).length d2] [.bool (qn u), .slice E1 (digs (qt u)).length e1, .slice F1 (digs (qd u)).length f1, .bool (qn v), .slice E2 (digs (qt v)).length e2, .slice F2 (digs (qd v)).length f2] 6 _).2.2.2.2.2.2.2.2.2.2.2.2.2.2.2.2.2.2.2.2.2.2.2.2.nx BX; have q0_ := s1.1.cell 0; have q1_ := s1.1.cell 1; have q2_ := s1.1.cell 2; have q3_ := s1.1.cell 3; have q4_ := s1.1.cell 4; have q5_ := s1.1.cell 5; have q6_ := s1.2.1.cell 0; have q7_ := s1.2.1.cell 1; have q8_ := s1.2.1.cell 2; have q9_ := s1.2.1.cell 3; have q10_ := s1.2.1.cell 4; have q11_ := s1.2.1.cell 5; have q12_ := s1.2.2.1.cell 0; have q13_ := s1.2.2.1.frozen 0; have q14_ := s1.2.2.1.cell 1; have q15_ := s1.2.2.1.frozen 1; have q16_ := s1.2.2.1.cell 2; have q17_ := s1.2.2.1.frozen 2; have q18_ := s1.2.2.1.cell 3; have q19_ := s1.2.2.1.frozen 3; have q20_ := s1.2.2.1.cell 4; have q21_ := s1.2.2.1.frozen 4; have q22_ := s1.2.2.1.cell 5; have q23_ := s1.2.2.1.frozen 5; with_reducible exact ⟨q0_, q1_, q2_, q3_, q4_, q5_, q6_, q7_, q8_, q9_, q10_, q11_, q12_, q13_, q14_, q15_, q16_, q17_, q18_, q19_, q20_, q21_, q22_, q23_, s1⟩)
        | with_reducible exact conjS _ ((by with_reducible assumption : _ ∧ _ ∧ _ ∧ _ ∧ _ ∧ _ ∧ _ ∧ _ ∧ _ ∧ _ ∧ _ ∧ _ ∧ _ ∧ _ ∧ _ ∧ _ ∧ _ ∧ _ ∧ _ ∧ _ ∧ _ ∧ _ ∧ _ ∧ _ ∧ S3 w w.heap.size [.bool (qn x), .slice A1 (digs (qt x)).length c1, .slice D1 (digs (qd x)).length d1, .bool (qn y), .slice A2 (digs (qt y)).length c2, .slice D2 (digs (qd y)).length d2] [.bool (qn u), .slice E1 (digs (qt u)).length e1, .slice F1 (digs (qd u)).length f1, .bool (qn v), .slice E2 (digs (qt v)).length e2, .slice F2 (digs (qd v)).length f2] 6 _).2.2.2.2.2.2.2.2.2.2.2.2.2.2.2.2.2.2.2.2.2.2.2.2.nx (bal _ _))
        | (with_reducible refine conjS _ (S3.re (by with_reducible assumption : _ ∧ _ ∧ _ ∧ _ ∧ _ ∧ _ ∧ _ ∧ _ ∧ _ ∧ _ ∧ _ ∧ _ ∧ _ ∧ _ ∧ _ ∧ _ ∧ _ ∧ _ ∧ _ ∧ _ ∧ _ ∧ _ ∧ _ ∧ _ ∧ S3 w w.heap.size [.bool (qn x), .slice A1 (digs (qt x)).length c1, .slice D1 (digs (qd x)).length d1, .bool (qn y), .slice A2 (digs (qt y)).length c2, .slice D2 (digs (qd y)).length d2] [.bool (qn u), .slice E1 (digs (qt u)).length e1, .slice F1 (digs (qd u)).length f1, .bool (qn v), .slice E2 (digs (qt v)).length e2, .slice F2 (digs (qd v)).length f2] 6 _).2.2.2.2.2.2.2.2.2.2.2.2.2.2.2.2.2.2.2.2.2.2.2.2 ?_); assumption))
      (first
        | (go_at_call 43; have hh := (by with_reducible assumption : _ ∧ _ ∧ _ ∧ _ ∧ _ ∧ _ ∧ _ ∧ _ ∧ _ ∧ _ ∧ _ ∧ _ ∧ _ ∧ _ ∧ _ ∧ _ ∧ _ ∧ _ ∧ _ ∧ _ ∧ _ ∧ _ ∧ _ ∧ _ ∧ S3 w w.heap.size [.bool (qn x), .slice A1 (digs (qt x)).length c1, .slice D1 (digs (qd x)).length d1, .bool (qn y), .slice A2 (digs (qt y)).length c2, .slice D2 (digs (qd y)).length d2] [.bool (qn u), .slice E1 (digs (qt u)).length e1, .slice F1 (digs (qd u)).length f1, .bool (qn v), .slice E2 (digs (qt v)).length e2, .slice F2 (digs (qd v)).length f2] 6 _).2.2.2.2.2.2.2.2.2.2.2.2.2.2.2.2.2.2.2.2.2.2.2.2; refine (hI _ _ ⟨E1, e1, F1, f1, E2, e2, F2, f2, rfl, st p5 hh.2.2.2, st p6 hh.2.2.2, st p7 hh.2.2.2, st p8 hh.2.2.2⟩).mono ?_; rintro e w12 ⟨A12, c12, D12, d12, E12, e12, F12, f12, rfl, O1, O2, O3, O4, BX⟩; have B12 := BX; have z12 := (hh.nx BX).2.2.1.2; have HN : RN w12 w12.heap.size (.agg #[.bool (rwq p).s, .slice A12 (rwq p).a.length c12, .slice D12 (rwq p).b.length d12, .bool (rwq q).s, .slice E12 (rwq q).a.length e12, .slice F12 (rwq q).b.length f12]) p q := ⟨A12, c12, D12, d12, E12, e12, F12, f12, rfl, O1.rw, O2.rw, O3.rw, O4.rw⟩; (first | (have sg := sg.nx BX; have g0 := sg.cell 0; have g1 := sg.cell 1; have g2 := sg.cell 2; have g3 := sg.cell 3; have g4 := sg.cell 4; have g5 := sg.cell 5; have h0 := sg.frozen 0; have h1 := sg.frozen 1; have h2 := sg.frozen 2; have h3 := sg.frozen 3; have h4 := sg.frozen 4; have h5 := sg.frozen 5) | (have sg := (SB.new _ [.bool false, .slice none 0 0, .slice none 0 0, .bool false, .slice none 0 0, .slice none 0 0] 26).nx BX; have g0 := sg.cell 0; have g1 := sg.cell 1; have g2 := sg.cell 2; have g3 := sg.cell 3; have g4 := sg.cell 4; have g5 := sg.cell 5; have h0 := sg.frozen 0; have h1 := sg.frozen 1; have h2 := sg.frozen 2; have h3 := sg.frozen 3; have h4 := sg.frozen 4; have h5 := sg.frozen 5) | (have sg := ((SB.new _ [.bool false, .slice none 0 0, .slice none 0 0, .bool false, .slice none 0 0, .slice none 0 0] 26).nx (Below.drew (Below.refl _ _))).nx BX; have g0 := sg.cell 0; have g1 := sg.cell 1; have g2 := sg.cell 2; have g3 := sg.cell 3; have g4 := sg.cell 4; have g5 := sg.cell 5; have h0 := sg.frozen 0; have h1 := sg.frozen 1; have h2 := sg.frozen 2; have h3 := sg.frozen 3; have h4 := sg.frozen 4; have h5 := sg.frozen 5) | skip))
        | ((first | have gl := sg.2 | skip); go_at_call 42; have hh := (by with_reducible assumption : _ ∧ _ ∧ _ ∧ _ ∧ _ ∧ _ ∧ _ ∧ _ ∧ _ ∧ _ ∧ _ ∧ _ ∧ _ ∧ _ ∧ _ ∧ _ ∧ _ ∧ _ ∧ _ ∧ _ ∧ _ ∧ _ ∧ _ ∧ _ ∧ S3 w w.heap.size [.bool (qn x), .slice A1 (digs (qt x)).length c1, .slice D1 (digs (qd x)).length d1, .bool (qn y), .slice A2 (digs (qt y)).length c2, .slice D2 (digs (qd y)).length d2] [.bool (qn u), .slice E1 (digs (qt u)).length e1, .slice F1 (digs (qd u)).length f1, .bool (qn v), .slice E2 (digs (qt v)).length e2, .slice F2 (digs (qd v)).length f2] 6 _).2.2.2.2.2.2.2.2.2.2.2.2.2.2.2.2.2.2.2.2.2.2.2.2; refine (hT _ _ _ ⟨A1, c1, D1, d1, A2, c2, D2, d2, rfl, st p1 hh.2.2.2, st p2 hh.2.2.2, st p3 hh.2.2.2, st p4 hh.2.2.2⟩ (by first | with_reducible exact HN | with_reducible exact HN.st (bal _ _))).mono ?_; rintro e w13 ⟨A13, c13, D13, d13, E13, e13, F13, f13, rfl, Q1, Q2, Q3, Q4, BX⟩; have B13 := BX; have z13 := (hh.nx BX).2.2.1.2; have kk := hh.nx BX; simp only [rwq] at Q1 Q2 Q3 Q4; (first | (have sg := sg.nx BX; have g0 := sg.cell 0; have g1 := sg.cell 1; have g2 := sg.cell 2; have g3 := sg.cell 3; have g4 := sg.cell 4; have g5 := sg.cell 5; have h0 := sg.frozen 0; have h1 := sg.frozen 1; have h2 := sg.frozen 2; have h3 := sg.frozen 3; have h4 := sg.frozen 4; have h5 := sg.frozen 5) | (have sg := (SB.new _ [.bool false, .slice none 0 0, .slice none 0 0, .bool false, .slice none 0 0, .slice none 0 0] 26).nx BX; have g0 := sg.cell 0; have g1 := sg.cell 1; have g2 := sg.cell 2; have g3 := sg.cell 3; have g4 := sg.cell 4; have g5 := sg.cell 5; have h0 := sg.frozen 0; have h1 := sg.frozen 1; have h2 := sg.frozen 2; have h3 := sg.frozen 3; have h4 := sg.frozen 4; have h5 := sg.frozen 5) | (have sg := ((SB.new _ [.bool false, .slice none 0 0, .slice none 0 0, .bool false, .slice none 0 0, .slice none 0 0] 26).nx (Below.drew (Below.refl _ _))).nx BX; have g0 := sg.cell 0; have g1 := sg.cell 1; have g2 := sg.cell 2; have g3 := sg.cell 3; have g4 := sg.cell 4; have g5 := sg.cell 5; have h0 := sg.frozen 0; have h1 := sg.frozen 1; have h2 := sg.frozen 2; have h3 := sg.frozen 3; have h4 := sg.frozen 4; have h5 := sg.frozen 5) | skip); (first | (have gz := gtz (n := w.heap.size) sg (by first | assumption | (simp; omega)); have kw6 := Lib.hid (S3.wr kk gz (.bool (rwq X).s) (.slice A13 (rwq X).a.length c13) (.slice D13 (rwq X).b.length d13) (.bool (rwq Y).s) (.slice E13 (rwq Y).a.length e13) (.slice F13 (rwq Y).b.length f13)); have kws := Lib.hid (conjS _ kw6.out)) | skip)))
    all_goals
      go_wp2_with fail
      go_meet
      first
        | (have _hk := kw6; exact ⟨_, A13, c13, D13, d13, E13, e13, F13, f13, rfl, SB.put6 sg _ _ _ _ _ _, kw6.out, gz, (OW.put6 Q1 gl _ _ _ _ _ _).rw, (OW.put6 Q2 gl _ _ _ _ _ _).rw, (OW.put6 Q3 gl _ _ _ _ _ _).rw, (OW.put6 Q4 gl _ _ _ _ _ _).rw⟩)
        | (have _hk := kw6; exact ⟨_, A13, c13, D13, d13, E13, e13, F13, f13, rfl, SB.put6 sg _ _ _ _ _ _, kw6.out, gz, (OW.put6 Q1 (by simp) _ _ _ _ _ _).rw, (OW.put6 Q2 (by simp) _ _ _ _ _ _).rw, (OW.put6 Q3 (by simp) _ _ _ _ _ _).rw, (OW.put6 Q4 (by simp) _ _ _ _ _ _).rw⟩)
        | (refine ⟨_, A13, c13, D13, d13, E13, e13, F13, f13, rfl, SB.new w13 _ _, kk.nx (bal _ _), ?_, st Q1.rw (bal _ _), st Q2.rw (bal _ _), st Q3.rw (bal _ _), st Q4.rw (bal _ _)⟩
           assumption)
  case rest =>
    obtain ⟨g, A, c, D, d, E, e, F, f, rfl, sg, k5, hg1, q1, q2, q3, q4⟩ := hcut
    have l0 := sg.cell 0
    have l1 := sg.cell 1
    have l2 := sg.cell 2
    have l3 := sg.cell 3
    have l4 := sg.cell 4
    have l5 := sg.cell 5
    go_wp2_with fail
    refine (hF _ _ _ ⟨A, c, D, d, rfl, q1, q2⟩ ⟨E, e, F, f, rfl, q3, q4⟩).mono ?_; rintro e w6 ⟨A7, c7, D7, d7, A8, c8, D8, d8, rfl, Q1, Q2, Q3, Q4, B6⟩
    dsimp only at Q1 Q2 Q3 Q4
    have kk := k5.nx B6
    have sz := k5.2.2.1.2
    have hRC := kk.2.2.1
    go_wp2_with (refine wp_st6 rfl (.tmp 4) (.tmp 28) rfl _ rfl _ _ _ _ _ _ rfl hRC rfl rfl rfl rfl rfl rfl ?_)
    have s6 := kk.2.2.1.put6 (.bool fr.s) (.slice A7 fr.a.length c7) (.slice D7 fr.b.length d7) (.bool fi.s) (.slice A8 fi.a.length c8) (.slice D8 fi.b.length d8)
    have B6 := wr6_below (b := w.heap.size + 2) kk.2.2.2 (by omega) (.bool fr.s) (.slice A7 fr.a.length c7) (.slice D7 fr.b.length d7) (.bool fi.s) (.slice A8 fi.a.length c8) (.slice D8 fi.b.length d8)
    have O1 := Q1.put6 (b := w.heap.size + 2) sz (.bool fr.s) (.slice A7 fr.a.length c7) (.slice D7 fr.b.length d7) (.bool fi.s) (.slice A8 fi.a.length c8) (.slice D8 fi.b.length d8)
    have O2 := Q2.put6 (b := w.heap.size + 2) sz (.bool fr.s) (.slice A7 fr.a.length c7) (.slice D7 fr.b.length d7) (.bool fi.s) (.slice A8 fi.a.length c8) (.slice D8 fi.b.length d8)
    have O3 := Q3.put6 (b := w.heap.size + 2) sz (.bool fr.s) (.slice A7 fr.a.length c7) (.slice D7 fr.b.length d7) (.bool fi.s) (.slice A8 fi.a.length c8) (.slice D8 fi.b.length d8)
    have O4 := Q4.put6 (b := w.heap.size + 2) sz (.bool fr.s) (.slice A7 fr.a.length c7) (.slice D7 fr.b.length d7) (.bool fi.s) (.slice A8 fi.a.length c8) (.slice D8 fi.b.length d8)
    have r0' := s6.cell 0
    have r1' := s6.cell 1
    have r2' := s6.cell 2
    have r3' := s6.cell 3
    have r4' := s6.cell 4
    have r5' := s6.cell 5
    refine bodyPost_ret (v := .tuple #[.agg #[.bool fr.s, .slice A7 fr.a.length c7, .slice D7 fr.b.length d7, .bool fi.s, .slice A8 fi.a.length c8, .slice D8 fi.b.length d8], .int .i64 fk]) (by simp [results, r0', r1', r2', r3', r4', r5', go_sem]) rfl ?_
    have hle := Nat.le_of_lt (Nat.lt_of_succ_lt (Nat.lt_of_succ_lt sz))
    exact ⟨A7, c7, D7, d7, A8, c8, D8, d8, rfl, O1.base_le hle, O2.base_le hle, O3.base_le hle, O4.base_le hle, B6⟩

end Go.Proofs.Ytkjfpaommbjgbaa
namespace Go.Proofs.Ytkjfpaommbjgbaa
open Go.RowKit

/-- the rational number that a raw fraction is -/
def qv (r : Rw) : Rat := ratN r.s (val r.a) (val r.b)
theorem qv_rwq (q : Rat) : qv (rwq q) = q := by unfold qv rwq; dsimp only; rw [val_digs, val_digs, q_self]
theorem rw_rat {r : Rw} (h : rsB r.s r.a r.b = true) : ∃ q, r = rwq q ∧ qw q ≤ 512 := by
  obtain ⟨s, a, b⟩ := r
  obtain ⟨q, rfl, rfl, rfl, hq⟩ := rsB_rat h
  exact ⟨q, rfl, hq⟩
theorem nB_rat {r i : Rw} (h : nB r i = true) : ∃ x y, r = rwq x ∧ i = rwq y ∧ qw x ≤ 512 ∧ qw y ≤ 512 := by
  unfold nB at h
  rw [Bool.and_eq_true] at h
  obtain ⟨x, e1, h1⟩ := rw_rat h.1
  obtain ⟨y, e2, h2⟩ := rw_rat h.2
  exact ⟨x, y, e1, e2, h1, h2⟩
theorem nB_rwq {x y : Rat} (h1 : qw x ≤ 512) (h2 : qw y ≤ 512) : nB (rwq x) (rwq y) = true := nB_qq h1 h2
theorem rwq_inj {p q : Rat} (h : rwq p = rwq q) : p = q := by rw [← qv_rwq p, h, qv_rwq]
theorem VN.rn {w : World} {B : Nat} {V : Value} {x y : Rat} (h : VN w B V (rwq x) (rwq y)) : RN w B V x y := h

def qaddA (r i r' i' : Rw) : Rw × Rw × Int := if nB r i = true ∧ nB r' i' = true then fitQ (qv r + qv r') (qv i + qv i') else (rw0, rw0, 2)
def qsubA (r i r' i' : Rw) : Rw × Rw × Int := if nB r i = true ∧ nB r' i' = true then fitQ (qv r + -qv r') (qv i + -qv i') else (rw0, rw0, 2)
def qmulA (r i r' i' : Rw) : Rw × Rw × Int := if nB r i = true ∧ nB r' i' = true then fitQ (qv r * qv r' + -(qv i * qv i')) (qv r * qv i' + qv i * qv r') else (rw0, rw0, 2)
/-- what a number is divided by: multiplied with its inverse -/
def divQ (x y u v : Rat) : Rw × Rw × Int := fitQ (x * (u * (u * u + v * v)⁻¹) + -(y * (-v * (u * u + v * v)⁻¹))) (x * (-v * (u * u + v * v)⁻¹) + y * (u * (u * u + v * v)⁻¹))
def qdivA (r i r' i' : Rw) : Rw × Rw × Int := if nB r i = true ∧ nB r' i' = true then (if qv r' = 0 ∧ qv i' = 0 then (rw0, rw0, 3) else divQ (qv r) (qv i) (qv r') (qv i')) else (rw0, rw0, 2)

variable {V U : Value} {r i r' i' : Rw} {w : World}
theorem ediv_any (hV : VN w w.heap.size V r i) (hU : VN w w.heap.size U r' i') : Calls Try.prog 18 #[V, U] w (RetNE w (qdivA r i r' i')) := by
  unfold qdivA
  by_cases h : nB r i = true ∧ nB r' i' = true
  · rw [if_pos h]
    obtain ⟨x, y, rfl, rfl, h1, h2⟩ := nB_rat h.1
    obtain ⟨u, v, rfl, rfl, h3, h4⟩ := nB_rat h.2
    rw [qv_rwq, qv_rwq, qv_rwq, qv_rwq]
    by_cases hz : u = 0 ∧ v = 0
    · rw [if_pos hz]
      exact ediv_zero V U x y u v w hV hU h1 h2 h3 h4 hz
    · rw [if_neg hz]
      exact ediv_ok V U x y u v w hV hU h1 h2 h3 h4 hz
  · rw [if_neg h]
    exact ediv_bad V U r i r' i' w hV hU h
end Go.Proofs.Ytkjfpaommbjgbaa
namespace Go.Proofs.Ytkjfpaommbjgbaa
open Go.RowKit

theorem txt_len {b n k : Nat} (hb : 2 ≤ b) (h : (digs n).length ≤ k) : (txt b n).length ≤ 32 * k + 1 := by
  unfold txt
  split
  · simp
  · rw [List.length_reverse]
    have h1 := digs_len_le.1 h
    have := rdg_len hb n (32 * k) (by rwa [Wp_eq] at h1)
    omega
/-- a fraction as it is written -/
def ratTx (b : Nat) (q : Rat) : List UInt8 := (if qn q = true then 45 :: txt b (qt q) else txt b (qt q)) ++ (if digs (qd q) = [1] then [] else 47 :: txt b (qd q))
theorem str_add {a b c : ByteArray} {x y : List UInt8} (ha : a = ⟨x.toArray⟩) (hb : b = ⟨y.toArray⟩) (hc : c = ⟨(x ++ y).toArray⟩) (hl : x.length + y.length ≤ 1000000) (w : World) : (Op.stringOp .add a b).run Try.prog w = .ok (.string c) w := by
  subst ha; subst hb; subst hc
  rw [run_string_add_sum w _ _ (by simp [ByteArray.size]; omega), ByteArray.mk_append_mk]


set_option maxRecDepth 100000 in
set_option maxHeartbeats 4000000 in
theorem ratText_any (v : Value) (q : Rat) (b : Int) (w : World) (hv : RQ w w.heap.size v q) (hq : qw q ≤ 512) (hb1 : 2 ≤ b) (hb2 : b ≤ 36) :
    Calls Try.prog 23 #[v, .int .i64 b] w fun e w' => e = .returned (.string ⟨(ratTx b.toNat q).toArray⟩) ∧ Below w.heap.size w w' := by
  obtain ⟨A, c, D, d, rfl, ra, rb⟩ := hv
  obtain ⟨p1, p2, _⟩ := rsB_parts (rsB_of q hq)
  have e1 : textA (digs (qt q)) b = (txt b.toNat (qt q), 0) := by unfold textA; rw [if_pos p1, if_neg (by omega), val_digs]
  have e2 : textA (digs (qd q)) b = (txt b.toNat (qd q), 0) := by unfold textA; rw [if_pos p2, if_neg (by omega), val_digs]
  have B1 := bal w (.cells #[.bool (qn q), .slice A (digs (qt q)).length c, .slice D (digs (qd q)).length d] 24)
  have sg := SB.new w [.bool (qn q), .slice A (digs (qt q)).length c, .slice D (digs (qd q)).length d] 24
  have m0 := sg.cell 0
  have m1 := sg.cell 1
  have m2 := sg.cell 2
  have h1 := fun w' (B : Below w.heap.size w w') => text_any A c _ (digs (qt q)) b w' rfl (st ra B)
  have h2 := fun w' (B : Below w.heap.size w w') => text_any D d _ (digs (qd q)) b w' rfl (st rb B)
  rw [e1] at h1
  rw [e2] at h2
  have n1 : (txt b.toNat (qt q)).length ≤ 20000 := by
    have := txt_len (b := b.toNat) (by omega) (soundB_parts p1).1
    omega
  have n2 : (txt b.toNat (qd q)).length ≤ 20000 := by
    have := txt_len (b := b.toNat) (by omega) (soundB_parts p2).1
    omega
  obtain ⟨z, hz⟩ : ∃ z, Hid (ratTx b.toNat q = z) := ⟨_, rfl⟩
  rw [hz.out]
  have hz := hz.out
  unfold ratTx at hz
  clear e1 e2 p1 p2 hb1 hb2 hq
  generalize txt b.toNat (qt q) = t1 at *
  generalize txt b.toNat (qd q) = t2 at *
  generalize digs (qd q) = l at *
  generalize (digs (qt q)).length = n at *
  generalize qn q = s at *
  have key : ∀ (w3 : World), Below w.heap.size w w3 → l.length = 1 → ∃ g o, D = some ⟨g, o, none⟩ ∧ w3.cell? ⟨g, o, none⟩ = some (.int .u32 ((wd l 0 : Nat) : Int)) := by
    intro w3 B h
    obtain ⟨g3, o3, e, _, hq⟩ := (st rb B).at_ (by omega)
    have x0 := hq 0 (by omega)
    rw [Nat.add_zero] at x0
    exact ⟨g3, o3, e, x0⟩
  clear ra rb
  obtain ⟨x1, hx1⟩ : ∃ x : ByteArray, x = ⟨t1.toArray⟩ := ⟨_, rfl⟩
  obtain ⟨x2, hx2⟩ : ∃ x : ByteArray, x = ⟨t2.toArray⟩ := ⟨_, rfl⟩
  obtain ⟨y1, hy1⟩ : ∃ x : ByteArray, x = ⟨(45 :: t1).toArray⟩ := ⟨_, rfl⟩
  obtain ⟨y2, hy2⟩ : ∃ x : ByteArray, x = ⟨(47 :: t2).toArray⟩ := ⟨_, rfl⟩
  have a1 := fun w => str_add (a := ⟨#[45]⟩) (x := [45]) rfl hx1 hy1 (by simp; omega) w
  have a2 := fun w => str_add (a := ⟨#[47]⟩) (x := [47]) rfl hx2 hy2 (by simp; omega) w
  obtain ⟨zb, hzb⟩ : ∃ x : ByteArray, x = ⟨z.toArray⟩ := ⟨_, rfl⟩
  have g1 : RetT = fun w t e w' => e = .returned (.tuple #[.string ⟨t.1.toArray⟩, .int .i64 t.2]) ∧ Below w.heap.size w w' := rfl
  rw [g1] at h1 h2
  clear g1
  dsimp only at h1 h2
  rw [← hx1] at h1
  rw [← hx2] at h2
  rw [← hzb]
  cases s with
  | true =>
    rw [if_pos rfl] at hz
    by_cases hone : l = [1]
    · rw [if_pos hone, List.append_nil] at hz
      have ez : zb = y1 := by rw [hzb, hy1, ← hz]
      subst hone
      have key1 := fun w3 B => key w3 B rfl
      rw [show wd [1] 0 = 1 from rfl] at key1
      rw [ez]
      clear key hz ez hzb hx1 hx2 hy1 hy2 a2 n1 n2 h2
      go_enter Try.func23, Try.ntmps23
      go_wp2_with fail
      refine (h1 _ B1).mono ?_; rintro e w3 ⟨rfl, B3⟩
      have S3 := sg.nx B3
      have n0 := S3.cell 0
      have n1 := S3.cell 1
      have n2 := S3.cell 2
      obtain ⟨g, o, rfl, hc⟩ := key1 w3 (bt B1 B3)
      clear key1
      go_wp2_with fail
      go_ret
      exact ⟨rfl, bt B1 B3⟩
    · rw [if_neg hone] at hz
      have a3 := fun w => str_add (c := zb) hy1 hy2 (by rw [hzb, ← hz]) (by simp; omega) w
      clear hz hzb hx1 hx2 hy1 hy2
      clear n1 n2
      by_cases hl : l.length = 1
      · obtain ⟨x, rfl⟩ := List.length_eq_one_iff.1 hl
        have key1 := fun w3 B => key w3 B rfl
        rw [show wd [x] 0 = x from rfl] at key1
        have t4 : ¬ (x : Int) = 1 := fun e => hone (by rw [show x = 1 by omega])
        have t3 : ((x : Int) == 1) = false := beq_eq_false_iff_ne.2 t4
        clear key hl hone
        go_enter Try.func23, Try.ntmps23
        go_wp2_with fail
        refine (h1 _ B1).mono ?_; rintro e w3 ⟨rfl, B3⟩
        have S3 := sg.nx B3
        have n0 := S3.cell 0
        have n1 := S3.cell 1
        have n2 := S3.cell 2
        obtain ⟨g, o, rfl, hc⟩ := key1 w3 (bt B1 B3)
        clear key1
        go_wp2_with fail
        refine (h2 _ (bt B1 B3)).mono ?_; rintro e w5 ⟨rfl, B5⟩
        go_wp2_with fail
        go_ret
        exact ⟨rfl, bt (bt B1 B3) B5⟩
      · have t2 : ¬ (l.length : Int) = 1 := by omega
        have t4 : ((l.length : Int) == 1) = false := beq_eq_false_iff_ne.2 t2
        clear hl hone key
        go_enter Try.func23, Try.ntmps23
        go_wp2_with fail
        refine (h1 _ B1).mono ?_; rintro e w3 ⟨rfl, B3⟩
        have S3 := sg.nx B3
        have n0 := S3.cell 0
        have n1 := S3.cell 1
        have n2 := S3.cell 2
        go_wp2_with fail
        refine (h2 _ (bt B1 B3)).mono ?_; rintro e w5 ⟨rfl, B5⟩
        go_wp2_with fail
        go_ret
        exact ⟨rfl, bt (bt B1 B3) B5⟩
  | false =>
    rw [if_neg (by simp)] at hz
    by_cases hone : l = [1]
    · rw [if_pos hone, List.append_nil] at hz
      have ez : zb = x1 := by rw [hzb, hx1, ← hz]
      subst hone
      have key1 := fun w3 B => key w3 B rfl
      rw [show wd [1] 0 = 1 from rfl] at key1
      rw [ez]
      clear key hz ez hzb hx1 hx2 hy1 hy2 a1 a2 n1 n2 h2
      go_enter Try.func23, Try.ntmps23
      go_wp2_with fail
      refine (h1 _ B1).mono ?_; rintro e w3 ⟨rfl, B3⟩
      have S3 := sg.nx B3
      have n0 := S3.cell 0
      have n1 := S3.cell 1
      have n2 := S3.cell 2
      obtain ⟨g, o, rfl, hc⟩ := key1 w3 (bt B1 B3)
      clear key1
      go_wp2_with fail
      go_ret
      exact ⟨rfl, bt B1 B3⟩
    · rw [if_neg hone] at hz
      have a3 := fun w => str_add (c := zb) hx1 hy2 (by rw [hzb, ← hz]) (by simp; omega) w
      clear hz hzb hx1 hx2 hy1 hy2
      clear n1 n2
      by_cases hl : l.length = 1
      · obtain ⟨x, rfl⟩ := List.length_eq_one_iff.1 hl
        have key1 := fun w3 B => key w3 B rfl
        rw [show wd [x] 0 = x from rfl] at key1
        have t4 : ¬ (x : Int) = 1 := fun e => hone (by rw [show x = 1 by omega])
        have t3 : ((x : Int) == 1) = false := beq_eq_false_iff_ne.2 t4
        clear key hl hone
        go_enter Try.func23, Try.ntmps23
        go_wp2_with fail
        refine (h1 _ B1).mono ?_; rintro e w3 ⟨rfl, B3⟩
        have S3 := sg.nx B3
        have n0 := S3.cell 0
        have n1 := S3.cell 1
        have n2 := S3.cell 2
        obtain ⟨g, o, rfl, hc⟩ := key1 w3 (bt B1 B3)
        clear key1
        go_wp2_with fail
        refine (h2 _ (bt B1 B3)).mono ?_; rintro e w5 ⟨rfl, B5⟩
        go_wp2_with fail
        go_ret
        exact ⟨rfl, bt (bt B1 B3) B5⟩
      · have t2 : ¬ (l.length : Int) = 1 := by omega
        have t4 : ((l.length : Int) == 1) = false := beq_eq_false_iff_ne.2 t2
        clear hl hone key
        go_enter Try.func23, Try.ntmps23
        go_wp2_with fail
        refine (h1 _ B1).mono ?_; rintro e w3 ⟨rfl, B3⟩
        have S3 := sg.nx B3
        have n0 := S3.cell 0
        have n1 := S3.cell 1
        have n2 := S3.cell 2
        go_wp2_with fail
        refine (h2 _ (bt B1 B3)).mono ?_; rintro e w5 ⟨rfl, B5⟩
        go_wp2_with fail
        go_ret
        exact ⟨rfl, bt (bt B1 B3) B5⟩


set_option maxRecDepth 100000 in
set_option maxHeartbeats 4000000 in
theorem text10_any (V : Value) (x : Rat) (w : World) (hV : RN w w.heap.size V x 0) (bx : qw x ≤ 512) :
    Calls Try.prog 10 #[V, .int .i64 10] w fun e w' => e = .returned (.tuple #[.string ⟨(ratTx 10 x).toArray⟩, .int .i64 0]) ∧ Below w.heap.size w w' := by
  obtain ⟨A1, c1, D1, d1, A2, c2, D2, d2, rfl, p1, p2, p3, p4⟩ := hV
  simp only [rwq] at p1 p2 p3 p4 ⊢
  have hx : RQ w w.heap.size (.agg #[.bool (qn x), .slice A1 (digs (qt x)).length c1, .slice D1 (digs (qd x)).length d1]) x := ⟨A1, c1, D1, d1, rfl, p1, p2⟩
  have B1 := bal w (.cells #[.bool (qn x), .slice A1 (digs (qt x)).length c1, .slice D1 (digs (qd x)).length d1, .bool (qn 0), .slice A2 (digs (qt 0)).length c2, .slice D2 (digs (qd 0)).length d2] 26)
  have s1 := SB.new w [.bool (qn x), .slice A1 (digs (qt x)).length c1, .slice D1 (digs (qd x)).length d1, .bool (qn 0), .slice A2 (digs (qt 0)).length c2, .slice D2 (digs (qd 0)).length d2] 26
  have B2 := bal (w.alloc (.cells #[.bool (qn x), .slice A1 (digs (qt x)).length c1, .slice D1 (digs (qd x)).length d1, .bool (qn 0), .slice A2 (digs (qt 0)).length c2, .slice D2 (digs (qd 0)).length d2] 26)) (.cells #[.bool (qn x), .slice A1 (digs (qt x)).length c1, .slice D1 (digs (qd x)).length d1, .bool (qn 0), .slice A2 (digs (qt 0)).length c2, .slice D2 (digs (qd 0)).length d2] 26)
  have sg := SB.new (w.alloc (.cells #[.bool (qn x), .slice A1 (digs (qt x)).length c1, .slice D1 (digs (qd x)).length d1, .bool (qn 0), .slice A2 (digs (qt 0)).length c2, .slice D2 (digs (qd 0)).length d2] 26)) [.bool (qn x), .slice A1 (digs (qt x)).length c1, .slice D1 (digs (qd x)).length d1, .bool (qn 0), .slice A2 (digs (qt 0)).length c2, .slice D2 (digs (qd 0)).length d2] 26
  have z1 : (w.alloc (.cells #[.bool (qn x), .slice A1 (digs (qt x)).length c1, .slice D1 (digs (qd x)).length d1, .bool (qn 0), .slice A2 (digs (qt 0)).length c2, .slice D2 (digs (qd 0)).length d2] 26)).heap.size = w.heap.size + 1 := by simp
  rw [z1] at sg
  have C1 := bt B1 B2
  have k1 := s1.nx B2
  have hck := check1x_any false (w.heap.size + 1) _ _ _ _ _ _ _ _ _ _ _ _ _ _ _ sg (st p1 C1) (st p2 C1) (st p3 C1) (st p4 C1)
  have hc2 : chkN1 false ⟨qn x, digs (qt x), digs (qd x)⟩ ⟨qn 0, digs (qt 0), digs (qd 0)⟩ = 0 := by
    unfold chkN1
    have h : nB ⟨qn x, digs (qt x), digs (qd x)⟩ ⟨qn 0, digs (qt 0), digs (qd 0)⟩ = true := by
      have hz : qw (0 : Rat) ≤ 512 := by decide_cbv
      unfold nB
      dsimp only
      rw [rsB_of x bx, rsB_of 0 hz]
      rfl
    rw [if_pos h, if_neg (by simp)]
  rw [hc2] at hck
  have hR := fun w' (B : Below w.heap.size w w') => ratText_any (.agg #[.bool (qn x), .slice A1 (digs (qt x)).length c1, .slice D1 (digs (qd x)).length d1]) x 10 w' (hx.st B) bx (by omega) (by omega)
  rw [show (10 : Int).toNat = 10 from rfl] at hR
  have e0 : (digs (qt 0)).length = 0 := by rw [show qt 0 = 0 from rfl, digs_zero]; rfl
  generalize ratTx 10 x = t at *
  generalize (digs (qt 0)).length = n0 at *
  subst e0
  clear hc2 sg hx
  go_enter Try.func10, Try.ntmps10
  go_wp2_with fail
  refine hck.mono ?_; rintro e w3 ⟨rfl, B3⟩
  have k3 := k1.nx B3
  have m0 := k3.cell 0
  have m1 := k3.cell 1
  have m2 := k3.cell 2
  have m3 := k3.cell 3
  have m4 := k3.cell 4
  have m5 := k3.cell 5
  go_wp2_with fail
  refine (hR _ (bt C1 B3)).mono ?_; rintro e w4 ⟨rfl, B4⟩
  go_wp2_with fail
  go_ret2
  exact ⟨rfl, bt (bt C1 B3) B4⟩

end Go.Proofs.Ytkjfpaommbjgbaa
namespace Go.Proofs.Ytkjfpaommbjgbaa
open Go.RowKit

theorem qw_small (n : Int) (h0 : -9223372036854775808 ≤ n) (h1 : n ≤ 9223372036854775807) : qw (n : Rat) ≤ 512 := by
  have h2 : (digs (qt (n : Rat))).length ≤ 2 := digs_u64 (by rw [qt_int]; omega)
  have h3 : (digs (qd (n : Rat))).length ≤ 2 := digs_u64 (by rw [qd_int]; omega)
  unfold qw
  omega
theorem rats_of_awake : ∃ r : Rat, fitQ (((6 : Int) : Rat) * (((-4 : Int) : Rat) * (((-4 : Int) : Rat) * ((-4 : Int) : Rat) + 0 * 0)⁻¹) + -(0 * (-0 * (((-4 : Int) : Rat) * ((-4 : Int) : Rat) + 0 * 0)⁻¹))) (((6 : Int) : Rat) * (-0 * (((-4 : Int) : Rat) * ((-4 : Int) : Rat) + 0 * 0)⁻¹) + 0 * (((-4 : Int) : Rat) * (((-4 : Int) : Rat) * ((-4 : Int) : Rat) + 0 * 0)⁻¹)) = (rwq r, rwq 0, 0) ∧ qw r ≤ 512 ∧ ratTx 10 r = [45, 51, 47, 50] := by
  have hr : qw (mkRat (-3) 2) ≤ 512 := by decide_cbv
  have h0 : qw (0 : Rat) ≤ 512 := by decide_cbv
  refine ⟨mkRat (-3) 2, ?_, hr, by decide_cbv⟩
  rw [show (((6 : Int) : Rat) * (((-4 : Int) : Rat) * (((-4 : Int) : Rat) * ((-4 : Int) : Rat) + 0 * 0)⁻¹) + -(0 * (-0 * (((-4 : Int) : Rat) * ((-4 : Int) : Rat) + 0 * 0)⁻¹))) = mkRat (-3) 2 by decide_cbv,
    show (((6 : Int) : Rat) * (-0 * (((-4 : Int) : Rat) * ((-4 : Int) : Rat) + 0 * 0)⁻¹) + 0 * (((-4 : Int) : Rat) * (((-4 : Int) : Rat) * ((-4 : Int) : Rat) + 0 * 0)⁻¹)) = 0 by decide_cbv]
  exact fitQ_ok hr h0
/-- what awake's calls answer -/
theorem parts_of_awake : ∃ (r6 r4 z0 rd : Rw), (∀ w, Calls Try.prog 19 #[.int .i64 6] w (RetN w r6 z0)) ∧ (∀ w, Calls Try.prog 19 #[.int .i64 (-4)] w (RetN w r4 z0)) ∧
    (∀ V U w, VN w w.heap.size V r6 z0 → VN w w.heap.size U r4 z0 → Calls Try.prog 18 #[V, U] w (RetNE w (rd, z0, 0))) ∧
    (∀ V w, VN w w.heap.size V rd z0 → Calls Try.prog 10 #[V, .int .i64 10] w fun e w' => e = .returned (.tuple #[.string ⟨#[45, 51, 47, 50]⟩, .int .i64 0]) ∧ Below w.heap.size w w') := by
  obtain ⟨r, hr, hq, ht⟩ := rats_of_awake
  have q6 := qw_small 6 (by omega) (by omega)
  have q4 := qw_small (-4) (by omega) (by omega)
  have h0 : qw (0 : Rat) ≤ 512 := by decide_cbv
  refine ⟨rwq ((6 : Int) : Rat), rwq ((-4 : Int) : Rat), rwq 0, rwq r, fun w => int_any 6 w (by omega) (by omega), fun w => int_any (-4) w (by omega) (by omega), fun V U w h1 h2 => ?_, fun V w h => ?_⟩
  · rw [← hr]
    exact ediv_ok V U _ 0 _ 0 w h1 h2 q6 h0 q4 h0 (by decide_cbv)
  · have h3 := text10_any V r w h hq
    rw [ht] at h3
    exact h3
set_option maxRecDepth 100000 in
set_option maxHeartbeats 4000000 in
theorem xawake_any (w : World) : Calls Try.prog 7 #[] w fun e w' => e = .returned (.bool true) ∧ Below w.heap.size w w' := by
  obtain ⟨r6, r4, z0, rd, h6, h4, hd, ht⟩ := parts_of_awake
  go_enter Try.func7, Try.ntmps7
  go_wp2_with fail
  refine (h6 _).mono ?_; rintro e w1 ⟨A1, c1, D1, d1, A2, c2, D2, d2, rfl, O1, O2, O3, O4, B1⟩
  go_wp2_with fail
  refine (h4 _).mono ?_; rintro e w2 ⟨A3, c3, D3, d3, A4, c4, D4, d4, rfl, O5, O6, O7, O8, B2⟩
  go_wp2_with fail
  refine (hd _ _ _ ⟨A1, c1, D1, d1, A2, c2, D2, d2, rfl, st O1.rw B2, st O2.rw B2, st O3.rw B2, st O4.rw B2⟩ ⟨A3, c3, D3, d3, A4, c4, D4, d4, rfl, O5.rw, O6.rw, O7.rw, O8.rw⟩).mono ?_
  rintro e w3 ⟨A5, c5, D5, d5, A6, c6, D6, d6, rfl, Q1, Q2, Q3, Q4, B3⟩
  dsimp only at Q1 Q2 Q3 Q4
  have L3 := bal w3 (.cells #[.bool rd.s, .slice A5 rd.a.length c5, .slice D5 rd.b.length d5, .bool z0.s, .slice A6 z0.a.length c6, .slice D6 z0.b.length d6] 26)
  have S3 := SB.new w3 [.bool rd.s, .slice A5 rd.a.length c5, .slice D5 rd.b.length d5, .bool z0.s, .slice A6 z0.a.length c6, .slice D6 z0.b.length d6] 26
  have l0 := S3.cell 0
  have l1 := S3.cell 1
  have l2 := S3.cell 2
  have l3 := S3.cell 3
  have l4 := S3.cell 4
  have l5 := S3.cell 5
  go_wp2_with fail
  refine (ht _ _ ⟨A5, c5, D5, d5, A6, c6, D6, d6, rfl, st Q1.rw L3, st Q2.rw L3, st Q3.rw L3, st Q4.rw L3⟩).mono ?_; rintro e w4 ⟨rfl, B4⟩
  go_wp2_with fail
  go_ret
  exact ⟨rfl, bt (bt (bt (bt B1 B2) B3) L3) B4⟩
end Go.Proofs.Ytkjfpaommbjgbaa
