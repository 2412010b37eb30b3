/- Walks: fit, Int of exact. -/
import Derived.Test.YtabcnpcfknlmlaaRatU
namespace Go.Proofs.Ytabcnpcfknlmlaa
open Go.RowKit

def rw0 : Rw := ⟨false, [], []⟩
/-- an answer: a number of the call's own, and an error's number -/
def RetNE (w : World) (x : Rw × Rw × Int) (e : Ending) (w' : World) : Prop := ∃ A1 c1 D1 d1 A2 c2 D2 d2, e = .returned (.tuple #[.agg #[.bool x.1.s, .slice A1 x.1.a.length c1, .slice D1 x.1.b.length d1, .bool x.2.1.s, .slice A2 x.2.1.a.length c2, .slice D2 x.2.1.b.length d2], .int .i64 x.2.2]) ∧
  OW w' w.heap.size A1 c1 x.1.a ∧ OW w' w.heap.size D1 d1 x.1.b ∧ OW w' w.heap.size A2 c2 x.2.1.a ∧ OW w' w.heap.size D2 d2 x.2.1.b ∧ Below w.heap.size w w'
theorem retNE_nil {w w' : World} (k : Int) (hb : Below w.heap.size w w') : RetNE w (rw0, rw0, k) (.returned (.tuple #[.agg #[.bool false, .slice none 0 0, .slice none 0 0, .bool false, .slice none 0 0, .slice none 0 0], .int .i64 k])) w' :=
  ⟨none, 0, none, 0, none, 0, none, 0, rfl, OW.nil _ _, OW.nil _ _, OW.nil _ _, OW.nil _ _, hb⟩
def fitQ (p q : Rat) : Rw × Rw × Int := if qw p ≤ 512 ∧ qw q ≤ 512 then (rwq p, rwq q, 0) else (rw0, rw0, 4)
theorem fitQ_ok {p q : Rat} (h1 : qw p ≤ 512) (h2 : qw q ≤ 512) : fitQ p q = (rwq p, rwq q, 0) := by unfold fitQ; rw [if_pos ⟨h1, h2⟩]
theorem fitQ_no {p q : Rat} (h : 512 < qw p ∨ 512 < qw q) : fitQ p q = (rw0, rw0, 4) := by unfold fitQ; rw [if_neg (by omega)]


set_option maxHeartbeats 4000000 in
theorem efit_any (v u : Value) (p q : Rat) (w : World) (hv : RQ w w.heap.size v p) (hu : RQ w w.heap.size u q) :
    Calls Try.prog 48 #[v, u] w (RetNE w (fitQ p q)) := by
  obtain ⟨A, c, D, d, rfl, ra, rb⟩ := hv
  obtain ⟨E, e0, H, h0, rfl, rc, rd⟩ := hu
  have lp1 := qw_t p
  have lp2 := qw_d p
  have lq1 := qw_t q
  have lq2 := qw_d q
  have hw1 : qw p = max (digs (qt p)).length (digs (qd p)).length := rfl
  have hw2 : qw q = max (digs (qt q)).length (digs (qd q)).length := rfl
  have k0 := S3.new w [.bool (qn p), .slice A (digs (qt p)).length c, .slice D (digs (qd p)).length d] [.bool (qn q), .slice E (digs (qt q)).length e0, .slice H (digs (qd q)).length h0] [.bool false, .slice none 0 0, .slice none 0 0, .bool false, .slice none 0 0, .slice none 0 0] 25 25 27 6
  have B4 := bal (((w.alloc (.cells #[.bool (qn p), .slice A (digs (qt p)).length c, .slice D (digs (qd p)).length d] 25)).alloc (.cells #[.bool (qn q), .slice E (digs (qt q)).length e0, .slice H (digs (qd q)).length h0] 25)).alloc (.cells #[.bool false, .slice none 0 0, .slice none 0 0, .bool false, .slice none 0 0, .slice none 0 0] 27)) (.cells #[.slice A (digs (qt p)).length c, .slice D (digs (qd p)).length d, .slice E (digs (qt q)).length e0, .slice H (digs (qd q)).length h0] 23)
  have k1 := k0.nx B4
  have z3 : (((w.alloc (.cells #[.bool (qn p), .slice A (digs (qt p)).length c, .slice D (digs (qd p)).length d] 25)).alloc (.cells #[.bool (qn q), .slice E (digs (qt q)).length e0, .slice H (digs (qd q)).length h0] 25)).alloc (.cells #[.bool false, .slice none 0 0, .slice none 0 0, .bool false, .slice none 0 0, .slice none 0 0] 27)).heap.size = w.heap.size + 3 := by simp
  have SA := SB.new (((w.alloc (.cells #[.bool (qn p), .slice A (digs (qt p)).length c, .slice D (digs (qd p)).length d] 25)).alloc (.cells #[.bool (qn q), .slice E (digs (qt q)).length e0, .slice H (digs (qd q)).length h0] 25)).alloc (.cells #[.bool false, .slice none 0 0, .slice none 0 0, .bool false, .slice none 0 0, .slice none 0 0] 27)) [.slice A (digs (qt p)).length c, .slice D (digs (qd p)).length d, .slice E (digs (qt q)).length e0, .slice H (digs (qd q)).length h0] 23
  rw [z3] at SA
  obtain ⟨W, hW⟩ : ∃ W, W = ((((w.alloc (.cells #[.bool (qn p), .slice A (digs (qt p)).length c, .slice D (digs (qd p)).length d] 25)).alloc (.cells #[.bool (qn q), .slice E (digs (qt q)).length e0, .slice H (digs (qd q)).length h0] 25)).alloc (.cells #[.bool false, .slice none 0 0, .slice none 0 0, .bool false, .slice none 0 0, .slice none 0 0] 27)).alloc (.cells #[.slice A (digs (qt p)).length c, .slice D (digs (qd p)).length d, .slice E (digs (qt q)).length e0, .slice H (digs (qd q)).length h0] 23)) := ⟨_, rfl⟩
  go_enter Try.func48, Try.ntmps48
  go_wp2_with fail
  rw [← hW] at SA k1 ⊢
  clear hW
  go_loopg [18] 4 (fun g iv wr => ∃ k : Nat, k ≤ 4 ∧ 4 - k = g ∧ iv = .int .i64 (k : Int) ∧ (1 ≤ k → (digs (qt p)).length ≤ 512) ∧ (2 ≤ k → (digs (qd p)).length ≤ 512) ∧ (3 ≤ k → (digs (qt q)).length ≤ 512) ∧ (4 ≤ k → (digs (qd q)).length ≤ 512) ∧ wr = W)
  case atStart => exact ⟨0, by omega, rfl, rfl, by intro h; omega, by intro h; omega, by intro h; omega, by intro h; omega, rfl⟩
  case round =>
    obtain ⟨k, hk, rfl, rfl, hq1, hq2, hq3, hq4, rfl⟩ := hrel
    by_cases h4 : k < 4
    · obtain rfl | rfl | rfl | rfl : k = 0 ∨ k = 1 ∨ k = 2 ∨ k = 3 := by omega
      · have x0 := SA.cell 0
        by_cases hl : 512 < (digs (qt p)).length
        · rw [fitQ_no (.inl (by omega))]
          clear hq1 hq2 hq3 hq4
          have hRC := k1.2.2.1
          go_wp2_with (refine wp_st6 rfl (.tmp 4) (.tmp 25) rfl _ rfl _ _ _ _ _ _ rfl hRC rfl rfl rfl rfl rfl rfl ?_)
          have s6 := k1.2.2.1.put6 (.bool false) (.slice none 0 0) (.slice none 0 0) (.bool false) (.slice none 0 0) (.slice none 0 0)
          have B6 := wr6_below (b := w.heap.size + 2) k1.2.2.2 (by omega) (.bool false) (.slice none 0 0) (.slice none 0 0) (.bool false) (.slice none 0 0) (.slice none 0 0)
          have r0' := s6.cell 0
          have r1' := s6.cell 1
          have r2' := s6.cell 2
          have r3' := s6.cell 3
          have r4' := s6.cell 4
          have r5' := s6.cell 5
          refine bodyPost_ret (v := .tuple #[.agg #[.bool false, .slice none 0 0, .slice none 0 0, .bool false, .slice none 0 0, .slice none 0 0], .int .i64 4]) (by simp [results, r0', r1', r2', r3', r4', r5', go_sem]) rfl ?_
          exact retNE_nil 4 B6
        · go_wp2_with fail
          go_roundg 3
          case measure => omega
          case rel => exact ⟨1, by omega, rfl, rfl, by intro _; omega, by intro _; omega, by intro _; omega, by intro _; omega, rfl⟩
      · have x1 := SA.cell 1
        by_cases hl : 512 < (digs (qd p)).length
        · rw [fitQ_no (.inl (by omega))]
          clear hq1 hq2 hq3 hq4
          have hRC := k1.2.2.1
          go_wp2_with (refine wp_st6 rfl (.tmp 4) (.tmp 25) rfl _ rfl _ _ _ _ _ _ rfl hRC rfl rfl rfl rfl rfl rfl ?_)
          have s6 := k1.2.2.1.put6 (.bool false) (.slice none 0 0) (.slice none 0 0) (.bool false) (.slice none 0 0) (.slice none 0 0)
          have B6 := wr6_below (b := w.heap.size + 2) k1.2.2.2 (by omega) (.bool false) (.slice none 0 0) (.slice none 0 0) (.bool false) (.slice none 0 0) (.slice none 0 0)
          have r0' := s6.cell 0
          have r1' := s6.cell 1
          have r2' := s6.cell 2
          have r3' := s6.cell 3
          have r4' := s6.cell 4
          have r5' := s6.cell 5
          refine bodyPost_ret (v := .tuple #[.agg #[.bool false, .slice none 0 0, .slice none 0 0, .bool false, .slice none 0 0, .slice none 0 0], .int .i64 4]) (by simp [results, r0', r1', r2', r3', r4', r5', go_sem]) rfl ?_
          exact retNE_nil 4 B6
        · go_wp2_with fail
          go_roundg 2
          case measure => omega
          case rel => exact ⟨2, by omega, rfl, rfl, by intro _; omega, by intro _; omega, by intro _; omega, by intro _; omega, rfl⟩
      · have x2 := SA.cell 2
        by_cases hl : 512 < (digs (qt q)).length
        · rw [fitQ_no (.inr (by omega))]
          clear hq1 hq2 hq3 hq4
          have hRC := k1.2.2.1
          go_wp2_with (refine wp_st6 rfl (.tmp 4) (.tmp 25) rfl _ rfl _ _ _ _ _ _ rfl hRC rfl rfl rfl rfl rfl rfl ?_)
          have s6 := k1.2.2.1.put6 (.bool false) (.slice none 0 0) (.slice none 0 0) (.bool false) (.slice none 0 0) (.slice none 0 0)
          have B6 := wr6_below (b := w.heap.size + 2) k1.2.2.2 (by omega) (.bool false) (.slice none 0 0) (.slice none 0 0) (.bool false) (.slice none 0 0) (.slice none 0 0)
          have r0' := s6.cell 0
          have r1' := s6.cell 1
          have r2' := s6.cell 2
          have r3' := s6.cell 3
          have r4' := s6.cell 4
          have r5' := s6.cell 5
          refine bodyPost_ret (v := .tuple #[.agg #[.bool false, .slice none 0 0, .slice none 0 0, .bool false, .slice none 0 0, .slice none 0 0], .int .i64 4]) (by simp [results, r0', r1', r2', r3', r4', r5', go_sem]) rfl ?_
          exact retNE_nil 4 B6
        · go_wp2_with fail
          go_roundg 1
          case measure => omega
          case rel => exact ⟨3, by omega, rfl, rfl, by intro _; omega, by intro _; omega, by intro _; omega, by intro _; omega, rfl⟩
      · have x3 := SA.cell 3
        by_cases hl : 512 < (digs (qd q)).length
        · rw [fitQ_no (.inr (by omega))]
          clear hq1 hq2 hq3 hq4
          have hRC := k1.2.2.1
          go_wp2_with (refine wp_st6 rfl (.tmp 4) (.tmp 25) rfl _ rfl _ _ _ _ _ _ rfl hRC rfl rfl rfl rfl rfl rfl ?_)
          have s6 := k1.2.2.1.put6 (.bool false) (.slice none 0 0) (.slice none 0 0) (.bool false) (.slice none 0 0) (.slice none 0 0)
          have B6 := wr6_below (b := w.heap.size + 2) k1.2.2.2 (by omega) (.bool false) (.slice none 0 0) (.slice none 0 0) (.bool false) (.slice none 0 0) (.slice none 0 0)
          have r0' := s6.cell 0
          have r1' := s6.cell 1
          have r2' := s6.cell 2
          have r3' := s6.cell 3
          have r4' := s6.cell 4
          have r5' := s6.cell 5
          refine bodyPost_ret (v := .tuple #[.agg #[.bool false, .slice none 0 0, .slice none 0 0, .bool false, .slice none 0 0, .slice none 0 0], .int .i64 4]) (by simp [results, r0', r1', r2', r3', r4', r5', go_sem]) rfl ?_
          exact retNE_nil 4 B6
        · go_wp2_with fail
          go_roundg 0
          case measure => omega
          case rel => exact ⟨4, by omega, rfl, rfl, by intro _; omega, by intro _; omega, by intro _; omega, by intro _; omega, rfl⟩
    · obtain rfl : k = 4 := by omega
      have h1 := hq1 (by omega)
      have h2 := hq2 (by omega)
      have h3 := hq3 (by omega)
      have h4' := hq4 (by omega)
      have HF := Lib.hid (fitQ_ok (p := p) (q := q) (by omega) (by omega))
      clear hq1 hq2 hq3 hq4 h1 h2 h3 h4' hw1 hw2 lp1 lp2 lq1 lq2
      have a0 := k1.1.cell 0
      have a1 := k1.1.cell 1
      have a2 := k1.1.cell 2
      have b0 := k1.2.1.cell 0
      have b1 := k1.2.1.cell 1
      have b2 := k1.2.1.cell 2
      have B1 := k1.2.2.2
      have hown := own_any (.agg #[.bool (qn p), .slice A (digs (qt p)).length c, .slice D (digs (qd p)).length d, .bool (qn q), .slice E (digs (qt q)).length e0, .slice H (digs (qd q)).length h0]) ⟨qn p, digs (qt p), digs (qd p)⟩ ⟨qn q, digs (qt q), digs (qd q)⟩ wr (vns ra rb rc rd B1)
      go_wp2_with fail
      refine hown.mono ?_; rintro e w5 ⟨E1, e1, F1, f1, E2, e2, F2, f2, rfl, O1, O2, O3, O4, B5⟩
      dsimp only at O1 O2 O3 O4
      have k5 := k1.nx B5
      have hb := k1.2.2.1.2
      have hRC := k5.2.2.1
      go_wp2_with (refine wp_st6 rfl (.tmp 4) (.tmp 30) rfl _ rfl _ _ _ _ _ _ rfl hRC rfl rfl rfl rfl rfl rfl ?_)
      have s6 := k5.2.2.1.put6 (.bool (qn p)) (.slice E1 (digs (qt p)).length e1) (.slice F1 (digs (qd p)).length f1) (.bool (qn q)) (.slice E2 (digs (qt q)).length e2) (.slice F2 (digs (qd q)).length f2)
      have B6 := wr6_below (b := w.heap.size + 2) k5.2.2.2 (by omega) (.bool (qn p)) (.slice E1 (digs (qt p)).length e1) (.slice F1 (digs (qd p)).length f1) (.bool (qn q)) (.slice E2 (digs (qt q)).length e2) (.slice F2 (digs (qd q)).length f2)
      have Oa := O1.put6 (b := w.heap.size + 2) hb (.bool (qn p)) (.slice E1 (digs (qt p)).length e1) (.slice F1 (digs (qd p)).length f1) (.bool (qn q)) (.slice E2 (digs (qt q)).length e2) (.slice F2 (digs (qd q)).length f2)
      have Ob := O2.put6 (b := w.heap.size + 2) hb (.bool (qn p)) (.slice E1 (digs (qt p)).length e1) (.slice F1 (digs (qd p)).length f1) (.bool (qn q)) (.slice E2 (digs (qt q)).length e2) (.slice F2 (digs (qd q)).length f2)
      have Oc := O3.put6 (b := w.heap.size + 2) hb (.bool (qn p)) (.slice E1 (digs (qt p)).length e1) (.slice F1 (digs (qd p)).length f1) (.bool (qn q)) (.slice E2 (digs (qt q)).length e2) (.slice F2 (digs (qd q)).length f2)
      have Od := O4.put6 (b := w.heap.size + 2) hb (.bool (qn p)) (.slice E1 (digs (qt p)).length e1) (.slice F1 (digs (qd p)).length f1) (.bool (qn q)) (.slice E2 (digs (qt q)).length e2) (.slice F2 (digs (qd q)).length f2)
      have r0' := s6.cell 0
      have r1' := s6.cell 1
      have r2' := s6.cell 2
      have r3' := s6.cell 3
      have r4' := s6.cell 4
      have r5' := s6.cell 5
      refine bodyPost_ret (v := .tuple #[.agg #[.bool (qn p), .slice E1 (digs (qt p)).length e1, .slice F1 (digs (qd p)).length f1, .bool (qn q), .slice E2 (digs (qt q)).length e2, .slice F2 (digs (qd q)).length f2], .int .i64 0]) (by simp [results, r0', r1', r2', r3', r4', r5', go_sem]) rfl ?_
      have hle : w.heap.size ≤ wr.heap.size := by omega
      rw [HF.out]
      exact ⟨E1, e1, F1, f1, E2, e2, F2, f2, rfl, Oa.base_le hle, Ob.base_le hle, Oc.base_le hle, Od.base_le hle, B6⟩

end Go.Proofs.Ytabcnpcfknlmlaa
