/- Merged texts: ExA, ExT, ExO, ExI, ExD, ExE, ExG, ExC. -/
import Derived.Test.YtilhnjecnhpmlaaDoorGF
namespace Go.Proofs.YtilhnjecnhpmlaaDoor
open Go.RowKit

/-- the error of one argument, of two -/
def chkN1 (real : Bool) (r i : Rw) : Int := if nB r i = true then (if real = true ∧ 0 < i.a.length then 10 else 0) else 2
def chkN2 (real : Bool) (r i r' i' : Rw) : Int := if nB r i = true ∧ nB r' i' = true then (if real = true ∧ (0 < i.a.length ∨ 0 < i'.a.length) then 10 else 0) else 2


set_option maxHeartbeats 8000000 in
theorem check1x_any (real : Bool) (g : Nat) (s11 : Bool) (a11 b11 : List Nat) (s12 : Bool) (a12 b12 : List Nat) (A11 : Option Addr) (c11 : Nat) (D11 : Option Addr) (d11 : Nat) (A12 : Option Addr) (c12 : Nat) (D12 : Option Addr) (d12 : Nat) (w : World) (hg : SB w g [.bool s11, .slice A11 a11.length c11, .slice D11 b11.length d11, .bool s12, .slice A12 a12.length c12, .slice D12 b12.length d12]) (r11 : RW w w.heap.size A11 c11 a11) (r12 : RW w w.heap.size D11 d11 b11) (r13 : RW w w.heap.size A12 c12 a12) (r14 : RW w w.heap.size D12 d12 b12) :
    Calls Tryd.prog 56 #[.bool real, .slice (some ⟨g, 0, none⟩) 1 1] w fun e w' => e = .returned (.int .i64 (chkN1 real ⟨s11, a11, b11⟩ ⟨s12, a12, b12⟩)) ∧ Below w.heap.size w w' := by
  have h1 := fun w' B => esound_any (.agg #[.bool s11, .slice A11 a11.length c11, .slice D11 b11.length d11, .bool s12, .slice A12 a12.length c12, .slice D12 b12.length d12]) ⟨s11, a11, b11⟩ ⟨s12, a12, b12⟩ w' (vns r11 r12 r13 r14 B)
  obtain ⟨n1, hn1⟩ : ∃ z, Hid (nB ⟨s11, a11, b11⟩ ⟨s12, a12, b12⟩ = z) := ⟨_, rfl⟩
  simp only [hn1.out] at h1
  have hval : Hid (chkN1 real ⟨s11, a11, b11⟩ ⟨s12, a12, b12⟩ = if n1 = true then (if real = true ∧ 0 < a12.length then 10 else 0) else 2) := by
    show _ = _
    unfold chkN1
    rw [hn1.out]
  obtain ⟨ans, hans⟩ : ∃ z : Int, Hid (chkN1 real ⟨s11, a11, b11⟩ ⟨s12, a12, b12⟩ = z) := ⟨_, rfl⟩
  rw [hans.out]
  go_enter Tryd.func56, Tryd.ntmps56
  go_wp2_with fail
  go_loopg [11] 1 (fun gg iv wr => ∃ k : Nat, k ≤ 1 ∧ 1 - k = gg ∧ iv = .int .i64 (k : Int) ∧ (1 ≤ k → n1 = true) ∧ Below w.heap.size w wr)
  case atStart => exact ⟨0, by omega, rfl, rfl, by intro h; omega, Below.refl _ _⟩
  case round =>
    obtain ⟨k, hk, rfl, rfl, q1, Bl⟩ := hrel
    by_cases h0 : k < 1
    · obtain rfl : k = 0 := by omega
      · have G := hg.nx Bl
        have m0 := G.cell 0
        have m1 := G.cell 1
        have m2 := G.cell 2
        have m3 := G.cell 3
        have m4 := G.cell 4
        have m5 := G.cell 5
        have Bn := bal wr (.cells #[.bool s11, .slice A11 a11.length c11, .slice D11 b11.length d11, .bool s12, .slice A12 a12.length c12, .slice D12 b12.length d12] 28)
        cases n1 with
        | false =>
          go_wp2_with fail
          refine (h1 _ (bt Bl Bn)).mono ?_; rintro e w3 ⟨rfl, B3⟩
          go_wp2_with fail
          go_ret
          exact ⟨by rw [← hans.out, hval.out, if_neg (by simp)]; rfl, bt (bt Bl Bn) B3⟩
        | true =>
          go_wp2_with fail
          refine (h1 _ (bt Bl Bn)).mono ?_; rintro e w3 ⟨rfl, B3⟩
          go_wp2_with fail
          go_roundg 0
          case measure => omega
          case rel => exact ⟨1, by omega, rfl, rfl, fun _ => by trivial, bt (bt Bl Bn) B3⟩
    · obtain rfl : k = 1 := by omega
      have t1 := q1 (by omega)
      subst t1
      clear q1 h0
      have hval2 : Hid (ans = if real = true ∧ 0 < a12.length then 10 else 0) := by show _ = _; rw [← hans.out, hval.out, if_pos rfl]
      clear hval
      go_wp2_with fail
      go_loopg [21] 1 (fun gg iv ww => ∃ k : Nat, k ≤ 1 ∧ 1 - k = gg ∧ iv = .int .i64 (k : Int) ∧ (1 ≤ k → ¬ (real = true ∧ 0 < a12.length)) ∧ Below w.heap.size w ww)
      case atStart => exact ⟨0, by omega, rfl, rfl, by intro h; omega, Bl⟩
      case round =>
        obtain ⟨k, hk, rfl, rfl, q1, Bm⟩ := hrel
        by_cases h0 : k < 1
        · obtain rfl : k = 0 := by omega
          · have G := hg.nx Bm
            have m0 := G.cell 0
            have m1 := G.cell 1
            have m2 := G.cell 2
            have m3 := G.cell 3
            have m4 := G.cell 4
            have m5 := G.cell 5
            have Bn := bal wr (.cells #[.bool s11, .slice A11 a11.length c11, .slice D11 b11.length d11, .bool s12, .slice A12 a12.length c12, .slice D12 b12.length d12] 28)
            cases real with
            | false =>
              go_wp2_with fail
              go_roundg 0
              case measure => omega
              case rel => exact ⟨1, by omega, rfl, rfl, by intro _ h; exact absurd h.1 (by simp), bt Bm Bn⟩
            | true =>
              by_cases hl : 0 < a12.length
              · go_wp2_with fail
                go_ret
                exact ⟨by rw [hval2.out, if_pos ⟨by trivial, hl⟩]; rfl, bt Bm Bn⟩
              · go_wp2_with fail
                go_roundg 0
                case measure => omega
                case rel => exact ⟨1, by omega, rfl, rfl, fun _ h => hl h.2, bt Bm Bn⟩
        · obtain rfl : k = 1 := by omega
          have z1 := q1 (by omega)
          have hfin : Hid (ans = 0) := by
            show _ = _
            rw [hval2.out, if_neg]
            rintro ⟨x1, x2⟩
            exact z1 ⟨x1, x2⟩
          clear q1 z1 hval2 h0
          go_wp2_with fail
          go_ret
          exact ⟨by rw [hfin.out]; rfl, Bm⟩


set_option maxHeartbeats 8000000 in
theorem check2x_any (real : Bool) (g : Nat) (s11 : Bool) (a11 b11 : List Nat) (s12 : Bool) (a12 b12 : List Nat) (A11 : Option Addr) (c11 : Nat) (D11 : Option Addr) (d11 : Nat) (A12 : Option Addr) (c12 : Nat) (D12 : Option Addr) (d12 : Nat) (s21 : Bool) (a21 b21 : List Nat) (s22 : Bool) (a22 b22 : List Nat) (A21 : Option Addr) (c21 : Nat) (D21 : Option Addr) (d21 : Nat) (A22 : Option Addr) (c22 : Nat) (D22 : Option Addr) (d22 : Nat) (w : World) (hg : SB w g [.bool s11, .slice A11 a11.length c11, .slice D11 b11.length d11, .bool s12, .slice A12 a12.length c12, .slice D12 b12.length d12, .bool s21, .slice A21 a21.length c21, .slice D21 b21.length d21, .bool s22, .slice A22 a22.length c22, .slice D22 b22.length d22]) (r11 : RW w w.heap.size A11 c11 a11) (r12 : RW w w.heap.size D11 d11 b11) (r13 : RW w w.heap.size A12 c12 a12) (r14 : RW w w.heap.size D12 d12 b12) (r21 : RW w w.heap.size A21 c21 a21) (r22 : RW w w.heap.size D21 d21 b21) (r23 : RW w w.heap.size A22 c22 a22) (r24 : RW w w.heap.size D22 d22 b22) :
    Calls Tryd.prog 56 #[.bool real, .slice (some ⟨g, 0, none⟩) 2 2] w fun e w' => e = .returned (.int .i64 (chkN2 real ⟨s11, a11, b11⟩ ⟨s12, a12, b12⟩ ⟨s21, a21, b21⟩ ⟨s22, a22, b22⟩)) ∧ Below w.heap.size w w' := by
  have h1 := fun w' B => esound_any (.agg #[.bool s11, .slice A11 a11.length c11, .slice D11 b11.length d11, .bool s12, .slice A12 a12.length c12, .slice D12 b12.length d12]) ⟨s11, a11, b11⟩ ⟨s12, a12, b12⟩ w' (vns r11 r12 r13 r14 B)
  have h2 := fun w' B => esound_any (.agg #[.bool s21, .slice A21 a21.length c21, .slice D21 b21.length d21, .bool s22, .slice A22 a22.length c22, .slice D22 b22.length d22]) ⟨s21, a21, b21⟩ ⟨s22, a22, b22⟩ w' (vns r21 r22 r23 r24 B)
  obtain ⟨n1, hn1⟩ : ∃ z, Hid (nB ⟨s11, a11, b11⟩ ⟨s12, a12, b12⟩ = z) := ⟨_, rfl⟩
  simp only [hn1.out] at h1
  obtain ⟨n2, hn2⟩ : ∃ z, Hid (nB ⟨s21, a21, b21⟩ ⟨s22, a22, b22⟩ = z) := ⟨_, rfl⟩
  simp only [hn2.out] at h2
  have hval : Hid (chkN2 real ⟨s11, a11, b11⟩ ⟨s12, a12, b12⟩ ⟨s21, a21, b21⟩ ⟨s22, a22, b22⟩ = if n1 = true ∧ n2 = true then (if real = true ∧ (0 < a12.length ∨ 0 < a22.length) then 10 else 0) else 2) := by
    show _ = _
    unfold chkN2
    rw [hn1.out, hn2.out]
  obtain ⟨ans, hans⟩ : ∃ z : Int, Hid (chkN2 real ⟨s11, a11, b11⟩ ⟨s12, a12, b12⟩ ⟨s21, a21, b21⟩ ⟨s22, a22, b22⟩ = z) := ⟨_, rfl⟩
  rw [hans.out]
  go_enter Tryd.func56, Tryd.ntmps56
  go_wp2_with fail
  go_loopg [11] 2 (fun gg iv wr => ∃ k : Nat, k ≤ 2 ∧ 2 - k = gg ∧ iv = .int .i64 (k : Int) ∧ (1 ≤ k → n1 = true) ∧ (2 ≤ k → n2 = true) ∧ Below w.heap.size w wr)
  case atStart => exact ⟨0, by omega, rfl, rfl, by intro h; omega, by intro h; omega, Below.refl _ _⟩
  case round =>
    obtain ⟨k, hk, rfl, rfl, q1, q2, Bl⟩ := hrel
    by_cases h0 : k < 2
    · obtain rfl | rfl : k = 0 ∨ k = 1 := by omega
      · have G := hg.nx Bl
        have m0 := G.cell 0
        have m1 := G.cell 1
        have m2 := G.cell 2
        have m3 := G.cell 3
        have m4 := G.cell 4
        have m5 := G.cell 5
        have Bn := bal wr (.cells #[.bool s11, .slice A11 a11.length c11, .slice D11 b11.length d11, .bool s12, .slice A12 a12.length c12, .slice D12 b12.length d12] 28)
        cases n1 with
        | false =>
          go_wp2_with fail
          refine (h1 _ (bt Bl Bn)).mono ?_; rintro e w3 ⟨rfl, B3⟩
          go_wp2_with fail
          go_ret
          exact ⟨by rw [← hans.out, hval.out, if_neg (by simp)]; rfl, bt (bt Bl Bn) B3⟩
        | true =>
          go_wp2_with fail
          refine (h1 _ (bt Bl Bn)).mono ?_; rintro e w3 ⟨rfl, B3⟩
          go_wp2_with fail
          go_roundg 1
          case measure => omega
          case rel => exact ⟨1, by omega, rfl, rfl, fun _ => by trivial, by intro h; omega, bt (bt Bl Bn) B3⟩
      · have G := hg.nx Bl
        have m0 := G.cell 6
        have m1 := G.cell 7
        have m2 := G.cell 8
        have m3 := G.cell 9
        have m4 := G.cell 10
        have m5 := G.cell 11
        have Bn := bal wr (.cells #[.bool s21, .slice A21 a21.length c21, .slice D21 b21.length d21, .bool s22, .slice A22 a22.length c22, .slice D22 b22.length d22] 28)
        cases n2 with
        | false =>
          go_wp2_with fail
          refine (h2 _ (bt Bl Bn)).mono ?_; rintro e w3 ⟨rfl, B3⟩
          go_wp2_with fail
          go_ret
          exact ⟨by rw [← hans.out, hval.out, if_neg (by simp)]; rfl, bt (bt Bl Bn) B3⟩
        | true =>
          go_wp2_with fail
          refine (h2 _ (bt Bl Bn)).mono ?_; rintro e w3 ⟨rfl, B3⟩
          go_wp2_with fail
          go_roundg 0
          case measure => omega
          case rel => exact ⟨2, by omega, rfl, rfl, fun _ => q1 (by omega), fun _ => by trivial, bt (bt Bl Bn) B3⟩
    · obtain rfl : k = 2 := by omega
      have t1 := q1 (by omega)
      have t2 := q2 (by omega)
      subst t1 t2
      clear q1 q2 h0
      have hval2 : Hid (ans = if real = true ∧ (0 < a12.length ∨ 0 < a22.length) then 10 else 0) := by show _ = _; rw [← hans.out, hval.out, if_pos ⟨rfl, rfl⟩]
      clear hval
      go_wp2_with fail
      go_loopg [21] 2 (fun gg iv ww => ∃ k : Nat, k ≤ 2 ∧ 2 - k = gg ∧ iv = .int .i64 (k : Int) ∧ (1 ≤ k → ¬ (real = true ∧ 0 < a12.length)) ∧ (2 ≤ k → ¬ (real = true ∧ 0 < a22.length)) ∧ Below w.heap.size w ww)
      case atStart => exact ⟨0, by omega, rfl, rfl, by intro h; omega, by intro h; omega, Bl⟩
      case round =>
        obtain ⟨k, hk, rfl, rfl, q1, q2, Bm⟩ := hrel
        by_cases h0 : k < 2
        · obtain rfl | rfl : k = 0 ∨ k = 1 := by omega
          · have G := hg.nx Bm
            have m0 := G.cell 0
            have m1 := G.cell 1
            have m2 := G.cell 2
            have m3 := G.cell 3
            have m4 := G.cell 4
            have m5 := G.cell 5
            have Bn := bal wr (.cells #[.bool s11, .slice A11 a11.length c11, .slice D11 b11.length d11, .bool s12, .slice A12 a12.length c12, .slice D12 b12.length d12] 28)
            cases real with
            | false =>
              go_wp2_with fail
              go_roundg 1
              case measure => omega
              case rel => exact ⟨1, by omega, rfl, rfl, by intro _ h; exact absurd h.1 (by simp), by intro _ h; exact absurd h.1 (by simp), bt Bm Bn⟩
            | true =>
              by_cases hl : 0 < a12.length
              · go_wp2_with fail
                go_ret
                exact ⟨by rw [hval2.out, if_pos ⟨by trivial, .inl hl⟩]; rfl, bt Bm Bn⟩
              · go_wp2_with fail
                go_roundg 1
                case measure => omega
                case rel => exact ⟨1, by omega, rfl, rfl, fun _ h => hl h.2, by intro h; omega, bt Bm Bn⟩
          · have G := hg.nx Bm
            have m0 := G.cell 6
            have m1 := G.cell 7
            have m2 := G.cell 8
            have m3 := G.cell 9
            have m4 := G.cell 10
            have m5 := G.cell 11
            have Bn := bal wr (.cells #[.bool s21, .slice A21 a21.length c21, .slice D21 b21.length d21, .bool s22, .slice A22 a22.length c22, .slice D22 b22.length d22] 28)
            cases real with
            | false =>
              go_wp2_with fail
              go_roundg 0
              case measure => omega
              case rel => exact ⟨2, by omega, rfl, rfl, by intro _ h; exact absurd h.1 (by simp), by intro _ h; exact absurd h.1 (by simp), bt Bm Bn⟩
            | true =>
              by_cases hl : 0 < a22.length
              · go_wp2_with fail
                go_ret
                exact ⟨by rw [hval2.out, if_pos ⟨by trivial, .inr hl⟩]; rfl, bt Bm Bn⟩
              · go_wp2_with fail
                go_roundg 0
                case measure => omega
                case rel => exact ⟨2, by omega, rfl, rfl, fun _ => q1 (by omega), fun _ h => hl h.2, bt Bm Bn⟩
        · obtain rfl : k = 2 := by omega
          have z1 := q1 (by omega)
          have z2 := q2 (by omega)
          have hfin : Hid (ans = 0) := by
            show _ = _
            rw [hval2.out, if_neg]
            rintro ⟨x1, x2⟩
            rcases x2 with x2 | x2
            · exact z1 ⟨x1, x2⟩
            · exact z2 ⟨x1, x2⟩
          clear q1 q2 z1 z2 hval2 h0
          go_wp2_with fail
          go_ret
          exact ⟨by rw [hfin.out]; rfl, Bm⟩

end Go.Proofs.YtilhnjecnhpmlaaDoor
namespace Go.Proofs.YtilhnjecnhpmlaaDoor
open Go.RowKit

theorem S3.put6 {w w1 : World} {b : Nat} {l1 l2 : List Value} (h : S3 w b l1 l2 6 w1) (x y z x' y' z' : Value) : S3 w b l1 l2 6 (Go.Proofs.YtilhnjecnhpmlaaDoor.wr6 w1 (b + 2) x y z x' y' z') :=
  ⟨h.1.wr6 (by omega) x y z x' y' z', h.2.1.wr6 (by omega) x y z x' y' z', (h.2.2.1.put6 x y z x' y' z').rc, wr6_below h.2.2.2 (by omega) x y z x' y' z'⟩
/-- a number in memory: two rationals -/
def RN (w : World) (B : Nat) (v : Value) (x y : Rat) : Prop := VN w B v (rwq x) (rwq y)


end Go.Proofs.YtilhnjecnhpmlaaDoor
namespace Go.Proofs.YtilhnjecnhpmlaaDoor
open Go.RowKit

theorem nB_qq {p q : Rat} (h1 : qw p ≤ 512) (h2 : qw q ≤ 512) : nB ⟨qn p, digs (qt p), digs (qd p)⟩ ⟨qn q, digs (qt q), digs (qd q)⟩ = true := by
  unfold nB
  dsimp only
  rw [rsB_of p h1, rsB_of q h2]; rfl


set_option maxHeartbeats 4000000 in
theorem eadd_bad (V U : Value) (r i r' i' : Rw) (w : World) (hV : VN w w.heap.size V r i) (hU : VN w w.heap.size U r' i') (hb : ¬ (nB r i = true ∧ nB r' i' = true)) :
    Calls Tryd.prog 45 #[V, U] w (RetNE w (rw0, rw0, 2)) := by
  obtain ⟨s1, a1, b1⟩ := r
  obtain ⟨s2, a2, b2⟩ := i
  obtain ⟨t1, g1, h1⟩ := r'
  obtain ⟨t2, g2, h2⟩ := i'
  obtain ⟨A1, c1, D1, d1, A2, c2, D2, d2, rfl, p1, p2, p3, p4⟩ := hV
  obtain ⟨E1, e1, F1, f1, E2, e2, F2, f2, rfl, p5, p6, p7, p8⟩ := hU
  dsimp only at p1 p2 p3 p4 p5 p6 p7 p8 ⊢
  have k0 := S3.new w [.bool s1, .slice A1 a1.length c1, .slice D1 b1.length d1, .bool s2, .slice A2 a2.length c2, .slice D2 b2.length d2] [.bool t1, .slice E1 g1.length e1, .slice F1 h1.length f1, .bool t2, .slice E2 g2.length e2, .slice F2 h2.length f2] [.bool false, .slice none 0 0, .slice none 0 0, .bool false, .slice none 0 0, .slice none 0 0] 28 28 28 6
  have C0 := k0.2.2.2
  have z3 : (((w.alloc (.cells #[.bool s1, .slice A1 a1.length c1, .slice D1 b1.length d1, .bool s2, .slice A2 a2.length c2, .slice D2 b2.length d2] 28)).alloc (.cells #[.bool t1, .slice E1 g1.length e1, .slice F1 h1.length f1, .bool t2, .slice E2 g2.length e2, .slice F2 h2.length f2] 28)).alloc (.cells #[.bool false, .slice none 0 0, .slice none 0 0, .bool false, .slice none 0 0, .slice none 0 0] 28)).heap.size = w.heap.size + 3 := by simp
  have Bs := bal (((w.alloc (.cells #[.bool s1, .slice A1 a1.length c1, .slice D1 b1.length d1, .bool s2, .slice A2 a2.length c2, .slice D2 b2.length d2] 28)).alloc (.cells #[.bool t1, .slice E1 g1.length e1, .slice F1 h1.length f1, .bool t2, .slice E2 g2.length e2, .slice F2 h2.length f2] 28)).alloc (.cells #[.bool false, .slice none 0 0, .slice none 0 0, .bool false, .slice none 0 0, .slice none 0 0] 28)) (.cells #[.bool s1, .slice A1 a1.length c1, .slice D1 b1.length d1, .bool s2, .slice A2 a2.length c2, .slice D2 b2.length d2, .bool t1, .slice E1 g1.length e1, .slice F1 h1.length f1, .bool t2, .slice E2 g2.length e2, .slice F2 h2.length f2] 28)
  have sg := SB.new (((w.alloc (.cells #[.bool s1, .slice A1 a1.length c1, .slice D1 b1.length d1, .bool s2, .slice A2 a2.length c2, .slice D2 b2.length d2] 28)).alloc (.cells #[.bool t1, .slice E1 g1.length e1, .slice F1 h1.length f1, .bool t2, .slice E2 g2.length e2, .slice F2 h2.length f2] 28)).alloc (.cells #[.bool false, .slice none 0 0, .slice none 0 0, .bool false, .slice none 0 0, .slice none 0 0] 28)) [.bool s1, .slice A1 a1.length c1, .slice D1 b1.length d1, .bool s2, .slice A2 a2.length c2, .slice D2 b2.length d2, .bool t1, .slice E1 g1.length e1, .slice F1 h1.length f1, .bool t2, .slice E2 g2.length e2, .slice F2 h2.length f2] 28
  rw [z3] at sg
  have C1 := bt C0 Bs
  have k1 := k0.nx Bs
  have hck := check2x_any false (w.heap.size + 3) _ _ _ _ _ _ _ _ _ _ _ _ _ _ _ _ _ _ _ _ _ _ _ _ _ _ _ _ _ sg (st p1 C1) (st p2 C1) (st p3 C1) (st p4 C1) (st p5 C1) (st p6 C1) (st p7 C1) (st p8 C1)
  have hc2 : chkN2 false ⟨s1, a1, b1⟩ ⟨s2, a2, b2⟩ ⟨t1, g1, h1⟩ ⟨t2, g2, h2⟩ = 2 := by unfold chkN2; rw [if_neg hb]
  rw [hc2] at hck
  clear hb hc2 sg
  go_enter Tryd.func45, Tryd.ntmps45
  go_wp2_with fail
  refine hck.mono ?_; rintro e w3 ⟨rfl, B3⟩
  have k3 := k1.nx B3
  have hRC := k3.2.2.1
  go_wp2_with (refine wp_st6 rfl (.tmp 4) (.tmp 13) rfl _ rfl _ _ _ _ _ _ rfl hRC rfl rfl rfl rfl rfl rfl ?_)
  have s6 := hRC.put6 (.bool false) (.slice none 0 0) (.slice none 0 0) (.bool false) (.slice none 0 0) (.slice none 0 0)
  have B6 := wr6_below (b := w.heap.size + 2) k3.2.2.2 (by omega) (.bool false) (.slice none 0 0) (.slice none 0 0) (.bool false) (.slice none 0 0) (.slice none 0 0)
  have r0' := s6.cell 0
  have r1' := s6.cell 1
  have r2' := s6.cell 2
  have r3' := s6.cell 3
  have r4' := s6.cell 4
  have r5' := s6.cell 5
  refine bodyPost_ret (v := .tuple #[.agg #[.bool false, .slice none 0 0, .slice none 0 0, .bool false, .slice none 0 0, .slice none 0 0], .int .i64 2]) (by simp [results, r0', r1', r2', r3', r4', r5', go_sem]) rfl ?_
  exact retNE_nil 2 B6


set_option maxRecDepth 100000 in
set_option maxHeartbeats 16000000 in
theorem eadd_ok (V U : Value) (x y u v : Rat) (w : World) (hV : RN w w.heap.size V x y) (hU : RN w w.heap.size U u v) (bx : qw x ≤ 512) (bY : qw y ≤ 512) (bu : qw u ≤ 512) (bv : qw v ≤ 512) :
    Calls Tryd.prog 45 #[V, U] w (RetNE w (fitQ (x + u) (y + v))) := by
  obtain ⟨A1, c1, D1, d1, A2, c2, D2, d2, rfl, p1, p2, p3, p4⟩ := hV
  obtain ⟨E1, e1, F1, f1, E2, e2, F2, f2, rfl, p5, p6, p7, p8⟩ := hU
  simp only [rwq] at p1 p2 p3 p4 p5 p6 p7 p8 ⊢
  have hx : RQ w w.heap.size (.agg #[.bool (qn x), .slice A1 (digs (qt x)).length c1, .slice D1 (digs (qd x)).length d1]) x := ⟨A1, c1, D1, d1, rfl, p1, p2⟩
  have hy : RQ w w.heap.size (.agg #[.bool (qn y), .slice A2 (digs (qt y)).length c2, .slice D2 (digs (qd y)).length d2]) y := ⟨A2, c2, D2, d2, rfl, p3, p4⟩
  have hu : RQ w w.heap.size (.agg #[.bool (qn u), .slice E1 (digs (qt u)).length e1, .slice F1 (digs (qd u)).length f1]) u := ⟨E1, e1, F1, f1, rfl, p5, p6⟩
  have hv : RQ w w.heap.size (.agg #[.bool (qn v), .slice E2 (digs (qt v)).length e2, .slice F2 (digs (qd v)).length f2]) v := ⟨E2, e2, F2, f2, rfl, p7, p8⟩
  have k0 := S3.new w [.bool (qn x), .slice A1 (digs (qt x)).length c1, .slice D1 (digs (qd x)).length d1, .bool (qn y), .slice A2 (digs (qt y)).length c2, .slice D2 (digs (qd y)).length d2] [.bool (qn u), .slice E1 (digs (qt u)).length e1, .slice F1 (digs (qd u)).length f1, .bool (qn v), .slice E2 (digs (qt v)).length e2, .slice F2 (digs (qd v)).length f2] [.bool false, .slice none 0 0, .slice none 0 0, .bool false, .slice none 0 0, .slice none 0 0] 28 28 28 6
  have C0 := k0.2.2.2
  have z3 : (((w.alloc (.cells #[.bool (qn x), .slice A1 (digs (qt x)).length c1, .slice D1 (digs (qd x)).length d1, .bool (qn y), .slice A2 (digs (qt y)).length c2, .slice D2 (digs (qd y)).length d2] 28)).alloc (.cells #[.bool (qn u), .slice E1 (digs (qt u)).length e1, .slice F1 (digs (qd u)).length f1, .bool (qn v), .slice E2 (digs (qt v)).length e2, .slice F2 (digs (qd v)).length f2] 28)).alloc (.cells #[.bool false, .slice none 0 0, .slice none 0 0, .bool false, .slice none 0 0, .slice none 0 0] 28)).heap.size = w.heap.size + 3 := by simp
  have Bs := bal (((w.alloc (.cells #[.bool (qn x), .slice A1 (digs (qt x)).length c1, .slice D1 (digs (qd x)).length d1, .bool (qn y), .slice A2 (digs (qt y)).length c2, .slice D2 (digs (qd y)).length d2] 28)).alloc (.cells #[.bool (qn u), .slice E1 (digs (qt u)).length e1, .slice F1 (digs (qd u)).length f1, .bool (qn v), .slice E2 (digs (qt v)).length e2, .slice F2 (digs (qd v)).length f2] 28)).alloc (.cells #[.bool false, .slice none 0 0, .slice none 0 0, .bool false, .slice none 0 0, .slice none 0 0] 28)) (.cells #[.bool (qn x), .slice A1 (digs (qt x)).length c1, .slice D1 (digs (qd x)).length d1, .bool (qn y), .slice A2 (digs (qt y)).length c2, .slice D2 (digs (qd y)).length d2, .bool (qn u), .slice E1 (digs (qt u)).length e1, .slice F1 (digs (qd u)).length f1, .bool (qn v), .slice E2 (digs (qt v)).length e2, .slice F2 (digs (qd v)).length f2] 28)
  have sg := SB.new (((w.alloc (.cells #[.bool (qn x), .slice A1 (digs (qt x)).length c1, .slice D1 (digs (qd x)).length d1, .bool (qn y), .slice A2 (digs (qt y)).length c2, .slice D2 (digs (qd y)).length d2] 28)).alloc (.cells #[.bool (qn u), .slice E1 (digs (qt u)).length e1, .slice F1 (digs (qd u)).length f1, .bool (qn v), .slice E2 (digs (qt v)).length e2, .slice F2 (digs (qd v)).length f2] 28)).alloc (.cells #[.bool false, .slice none 0 0, .slice none 0 0, .bool false, .slice none 0 0, .slice none 0 0] 28)) [.bool (qn x), .slice A1 (digs (qt x)).length c1, .slice D1 (digs (qd x)).length d1, .bool (qn y), .slice A2 (digs (qt y)).length c2, .slice D2 (digs (qd y)).length d2, .bool (qn u), .slice E1 (digs (qt u)).length e1, .slice F1 (digs (qd u)).length f1, .bool (qn v), .slice E2 (digs (qt v)).length e2, .slice F2 (digs (qd v)).length f2] 28
  rw [z3] at sg
  have C1 := bt C0 Bs
  have k1 := k0.nx Bs
  have hck := check2x_any false (w.heap.size + 3) _ _ _ _ _ _ _ _ _ _ _ _ _ _ _ _ _ _ _ _ _ _ _ _ _ _ _ _ _ sg (st p1 C1) (st p2 C1) (st p3 C1) (st p4 C1) (st p5 C1) (st p6 C1) (st p7 C1) (st p8 C1)
  have hc2 : chkN2 false ⟨qn x, digs (qt x), digs (qd x)⟩ ⟨qn y, digs (qt y), digs (qd y)⟩ ⟨qn u, digs (qt u), digs (qd u)⟩ ⟨qn v, digs (qt v), digs (qd v)⟩ = 0 := by unfold chkN2; rw [if_pos ⟨nB_qq bx bY, nB_qq bu bv⟩, if_neg (by simp)]
  rw [hc2] at hck
  have hF := fun V U w' h1 h2 => efit_any V U (x + u) (y + v) w' h1 h2
  generalize fitQ (x + u) (y + v) = ft at *
  obtain ⟨fr, fi, fk⟩ := ft
  clear hc2 sg
  have nu := qw_neg u
  have nv := qw_neg v
  go_enter Tryd.func45, Tryd.ntmps45
  go_wp2_with fail
  refine hck.mono ?_; rintro e w3 ⟨rfl, B3⟩
  have k3 := k1.nx B3
  go_wp2_with fail
  have k3d := k3.dr
  have k3s := And.intro (k3d.1.cell 0) (And.intro (k3d.1.cell 1) (And.intro (k3d.1.cell 2) (And.intro (k3d.1.cell 3) (And.intro (k3d.1.cell 4) (And.intro (k3d.1.cell 5) (And.intro (k3d.2.1.cell 0) (And.intro (k3d.2.1.cell 1) (And.intro (k3d.2.1.cell 2) (And.intro (k3d.2.1.cell 3) (And.intro (k3d.2.1.cell 4) (And.intro (k3d.2.1.cell 5) (And.intro (k3d.2.2.1.cell 0) (And.intro (k3d.2.2.1.frozen 0) (And.intro (k3d.2.2.1.cell 1) (And.intro (k3d.2.2.1.frozen 1) (And.intro (k3d.2.2.1.cell 2) (And.intro (k3d.2.2.1.frozen 2) (And.intro (k3d.2.2.1.cell 3) (And.intro (k3d.2.2.1.frozen 3) (And.intro (k3d.2.2.1.cell 4) (And.intro (k3d.2.2.1.frozen 4) (And.intro (k3d.2.2.1.cell 5) (And.intro (k3d.2.2.1.frozen 5) (k3d))))))))))))))))))))))))
  go_region_held3 (fun w' => w'.cell? ⟨w.heap.size, 0, none⟩ = some (.bool (qn x)) ∧ w'.cell? ⟨w.heap.size, 1, none⟩ = some (.slice A1 (digs (qt x)).length c1) ∧ w'.cell? ⟨w.heap.size, 2, none⟩ = some (.slice D1 (digs (qd x)).length d1) ∧ w'.cell? ⟨w.heap.size, 3, none⟩ = some (.bool (qn y)) ∧ w'.cell? ⟨w.heap.size, 4, none⟩ = some (.slice A2 (digs (qt y)).length c2) ∧ w'.cell? ⟨w.heap.size, 5, none⟩ = some (.slice D2 (digs (qd y)).length d2) ∧ w'.cell? ⟨w.heap.size + 1, 0, none⟩ = some (.bool (qn u)) ∧ w'.cell? ⟨w.heap.size + 1, 1, none⟩ = some (.slice E1 (digs (qt u)).length e1) ∧ w'.cell? ⟨w.heap.size + 1, 2, none⟩ = some (.slice F1 (digs (qd u)).length f1) ∧ w'.cell? ⟨w.heap.size + 1, 3, none⟩ = some (.bool (qn v)) ∧ w'.cell? ⟨w.heap.size + 1, 4, none⟩ = some (.slice E2 (digs (qt v)).length e2) ∧ w'.cell? ⟨w.heap.size + 1, 5, none⟩ = some (.slice F2 (digs (qd v)).length f2) ∧ w'.cell? ⟨w.heap.size + 2, 0, none⟩ = some (cv w' (w.heap.size + 2) 0) ∧ w'.frozen? ⟨w.heap.size + 2, 0, none⟩ = false ∧ w'.cell? ⟨w.heap.size + 2, 1, none⟩ = some (cv w' (w.heap.size + 2) 1) ∧ w'.frozen? ⟨w.heap.size + 2, 1, none⟩ = false ∧ w'.cell? ⟨w.heap.size + 2, 2, none⟩ = some (cv w' (w.heap.size + 2) 2) ∧ w'.frozen? ⟨w.heap.size + 2, 2, none⟩ = false ∧ w'.cell? ⟨w.heap.size + 2, 3, none⟩ = some (cv w' (w.heap.size + 2) 3) ∧ w'.frozen? ⟨w.heap.size + 2, 3, none⟩ = false ∧ w'.cell? ⟨w.heap.size + 2, 4, none⟩ = some (cv w' (w.heap.size + 2) 4) ∧ w'.frozen? ⟨w.heap.size + 2, 4, none⟩ = false ∧ w'.cell? ⟨w.heap.size + 2, 5, none⟩ = some (cv w' (w.heap.size + 2) 5) ∧ w'.frozen? ⟨w.heap.size + 2, 5, none⟩ = false ∧ S3 w w.heap.size [.bool (qn x), .slice A1 (digs (qt x)).length c1, .slice D1 (digs (qd x)).length d1, .bool (qn y), .slice A2 (digs (qt y)).length c2, .slice D2 (digs (qd y)).length d2] [.bool (qn u), .slice E1 (digs (qt u)).length e1, .slice F1 (digs (qd u)).length f1, .bool (qn v), .slice E2 (digs (qt v)).length e2, .slice F2 (digs (qd v)).length f2] 6 w')
    (first
      | with_reducible exact k3s
      | (have s1 := (by assumption : _ ∧ _ ∧ _ ∧ _ ∧ _ ∧ _ ∧ _ ∧ _ ∧ _ ∧ _ ∧ _ ∧ _ ∧ _ ∧ _ ∧ _ ∧ _ ∧ _ ∧ _ ∧ _ ∧ _ ∧ _ ∧ _ ∧ _ ∧ _ ∧ S3 w w.heap.size [.bool (qn x), .slice A1 (digs (qt x)).length c1, .slice D1 (digs (qd x)).length d1, .bool (qn y), .slice A2 (digs (qt y)).length c2, .slice D2 (digs (qd y)).length d2] [.bool (qn u), .slice E1 (digs (qt u)).length e1, .slice F1 (digs (qd u)).length f1, .bool (qn v), .slice E2 (digs (qt v)).length e2, .slice F2 (digs (qd v)).length f2] 6 _).2.2.2.2.2.2.2.2.2.2.2.2.2.2.2.2.2.2.2.2.2.2.2.2.nx BX; have q0_ := s1.1.cell 0; have q1_ := s1.1.cell 1; have q2_ := s1.1.cell 2; have q3_ := s1.1.cell 3; have q4_ := s1.1.cell 4; have q5_ := s1.1.cell 5; have q6_ := s1.2.1.cell 0; have q7_ := s1.2.1.cell 1; have q8_ := s1.2.1.cell 2; have q9_ := s1.2.1.cell 3; have q10_ := s1.2.1.cell 4; have q11_ := s1.2.1.cell 5; have q12_ := s1.2.2.1.cell 0; have q13_ := s1.2.2.1.frozen 0; have q14_ := s1.2.2.1.cell 1; have q15_ := s1.2.2.1.frozen 1; have q16_ := s1.2.2.1.cell 2; have q17_ := s1.2.2.1.frozen 2; have q18_ := s1.2.2.1.cell 3; have q19_ := s1.2.2.1.frozen 3; have q20_ := s1.2.2.1.cell 4; have q21_ := s1.2.2.1.frozen 4; have q22_ := s1.2.2.1.cell 5; have q23_ := s1.2.2.1.frozen 5; with_reducible exact ⟨q0_, q1_, q2_, q3_, q4_, q5_, q6_, q7_, q8_, q9_, q10_, q11_, q12_, q13_, q14_, q15_, q16_, q17_, q18_, q19_, q20_, q21_, q22_, q23_, s1⟩)
      | (have s1 := (by assumption : _ ∧ _ ∧ _ ∧ _ ∧ _ ∧ _ ∧ _ ∧ _ ∧ _ ∧ _ ∧ _ ∧ _ ∧ _ ∧ _ ∧ _ ∧ _ ∧ _ ∧ _ ∧ _ ∧ _ ∧ _ ∧ _ ∧ _ ∧ _ ∧ S3 w w.heap.size [.bool (qn x), .slice A1 (digs (qt x)).length c1, .slice D1 (digs (qd x)).length d1, .bool (qn y), .slice A2 (digs (qt y)).length c2, .slice D2 (digs (qd y)).length d2] [.bool (qn u), .slice E1 (digs (qt u)).length e1, .slice F1 (digs (qd u)).length f1, .bool (qn v), .slice E2 (digs (qt v)).length e2, .slice F2 (digs (qd v)).length f2] 6 _).2.2.2.2.2.2.2.2.2.2.2.2.2.2.2.2.2.2.2.2.2.2.2.2.put6 (.bool fr.s) (.slice A7 fr.a.length c7) (.slice D7 fr.b.length d7) (.bool fi.s) (.slice A8 fi.a.length c8) (.slice D8 fi.b.length d8); have q0_ := s1.1.cell 0; have q1_ := s1.1.cell 1; have q2_ := s1.1.cell 2; have q3_ := s1.1.cell 3; have q4_ := s1.1.cell 4; have q5_ := s1.1.cell 5; have q6_ := s1.2.1.cell 0; have q7_ := s1.2.1.cell 1; have q8_ := s1.2.1.cell 2; have q9_ := s1.2.1.cell 3; have q10_ := s1.2.1.cell 4; have q11_ := s1.2.1.cell 5; have q12_ := s1.2.2.1.cell 0; have q13_ := s1.2.2.1.frozen 0; have q14_ := s1.2.2.1.cell 1; have q15_ := s1.2.2.1.frozen 1; have q16_ := s1.2.2.1.cell 2; have q17_ := s1.2.2.1.frozen 2; have q18_ := s1.2.2.1.cell 3; have q19_ := s1.2.2.1.frozen 3; have q20_ := s1.2.2.1.cell 4; have q21_ := s1.2.2.1.frozen 4; have q22_ := s1.2.2.1.cell 5; have q23_ := s1.2.2.1.frozen 5; with_reducible exact ⟨q0_, q1_, q2_, q3_, q4_, q5_, q6_, q7_, q8_, q9_, q10_, q11_, q12_, q13_, q14_, q15_, q16_, q17_, q18_, q19_, q20_, q21_, q22_, q23_, s1⟩))
    (first
      | (go_at_call_of 58 (Value.agg #[.bool (qn x), .slice A1 (digs (qt x)).length c1, .slice D1 (digs (qd x)).length d1]); have hh := (by assumption : _ ∧ _ ∧ _ ∧ _ ∧ _ ∧ _ ∧ _ ∧ _ ∧ _ ∧ _ ∧ _ ∧ _ ∧ _ ∧ _ ∧ _ ∧ _ ∧ _ ∧ _ ∧ _ ∧ _ ∧ _ ∧ _ ∧ _ ∧ _ ∧ S3 w w.heap.size [.bool (qn x), .slice A1 (digs (qt x)).length c1, .slice D1 (digs (qd x)).length d1, .bool (qn y), .slice A2 (digs (qt y)).length c2, .slice D2 (digs (qd y)).length d2] [.bool (qn u), .slice E1 (digs (qt u)).length e1, .slice F1 (digs (qd u)).length f1, .bool (qn v), .slice E2 (digs (qt v)).length e2, .slice F2 (digs (qd v)).length f2] 6 _).2.2.2.2.2.2.2.2.2.2.2.2.2.2.2.2.2.2.2.2.2.2.2.2; refine (sum_any _ _ x u _ (hx.st hh.2.2.2) (hu.st hh.2.2.2) (by omega)).mono ?_; rintro e w14 ⟨A14, c14, D14, d14, rfl, O14, P14, BX⟩; have B14 := BX)
      | (go_at_call_of 58 (Value.agg #[.bool (qn y), .slice A2 (digs (qt y)).length c2, .slice D2 (digs (qd y)).length d2]); have hh := (by assumption : _ ∧ _ ∧ _ ∧ _ ∧ _ ∧ _ ∧ _ ∧ _ ∧ _ ∧ _ ∧ _ ∧ _ ∧ _ ∧ _ ∧ _ ∧ _ ∧ _ ∧ _ ∧ _ ∧ _ ∧ _ ∧ _ ∧ _ ∧ _ ∧ S3 w w.heap.size [.bool (qn x), .slice A1 (digs (qt x)).length c1, .slice D1 (digs (qd x)).length d1, .bool (qn y), .slice A2 (digs (qt y)).length c2, .slice D2 (digs (qd y)).length d2] [.bool (qn u), .slice E1 (digs (qt u)).length e1, .slice F1 (digs (qd u)).length f1, .bool (qn v), .slice E2 (digs (qt v)).length e2, .slice F2 (digs (qd v)).length f2] 6 _).2.2.2.2.2.2.2.2.2.2.2.2.2.2.2.2.2.2.2.2.2.2.2.2; refine (sum_any _ _ y v _ (hy.st hh.2.2.2) (hv.st hh.2.2.2) (by omega)).mono ?_; rintro e w15 ⟨A15, c15, D15, d15, rfl, O15, P15, BX⟩; have B15 := BX)
      | (go_at_call 57; have hh := (by assumption : _ ∧ _ ∧ _ ∧ _ ∧ _ ∧ _ ∧ _ ∧ _ ∧ _ ∧ _ ∧ _ ∧ _ ∧ _ ∧ _ ∧ _ ∧ _ ∧ _ ∧ _ ∧ _ ∧ _ ∧ _ ∧ _ ∧ _ ∧ _ ∧ S3 w w.heap.size [.bool (qn x), .slice A1 (digs (qt x)).length c1, .slice D1 (digs (qd x)).length d1, .bool (qn y), .slice A2 (digs (qt y)).length c2, .slice D2 (digs (qd y)).length d2] [.bool (qn u), .slice E1 (digs (qt u)).length e1, .slice F1 (digs (qd u)).length f1, .bool (qn v), .slice E2 (digs (qt v)).length e2, .slice F2 (digs (qd v)).length f2] 6 _).2.2.2.2.2.2.2.2.2.2.2.2.2.2.2.2.2.2.2.2.2.2.2.2; refine (hF _ _ _ ⟨A14, c14, D14, d14, rfl, st O14.rw B15, st P14.rw B15⟩ ⟨A15, c15, D15, d15, rfl, O15.rw, P15.rw⟩).mono ?_; rintro e w16 ⟨A7, c7, D7, d7, A8, c8, D8, d8, rfl, Q1, Q2, Q3, Q4, BX⟩; dsimp only at Q1 Q2 Q3 Q4; have B16 := BX; have kk := hh.nx BX; have sz := hh.2.2.1.2))
  have s6 := kk.2.2.1.put6 (.bool fr.s) (.slice A7 fr.a.length c7) (.slice D7 fr.b.length d7) (.bool fi.s) (.slice A8 fi.a.length c8) (.slice D8 fi.b.length d8)
  have B6 := wr6_below (b := w.heap.size + 2) kk.2.2.2 (by omega) (.bool fr.s) (.slice A7 fr.a.length c7) (.slice D7 fr.b.length d7) (.bool fi.s) (.slice A8 fi.a.length c8) (.slice D8 fi.b.length d8)
  have O1 := Q1.put6 (b := w.heap.size + 2) sz (.bool fr.s) (.slice A7 fr.a.length c7) (.slice D7 fr.b.length d7) (.bool fi.s) (.slice A8 fi.a.length c8) (.slice D8 fi.b.length d8)
  have O2 := Q2.put6 (b := w.heap.size + 2) sz (.bool fr.s) (.slice A7 fr.a.length c7) (.slice D7 fr.b.length d7) (.bool fi.s) (.slice A8 fi.a.length c8) (.slice D8 fi.b.length d8)
  have O3 := Q3.put6 (b := w.heap.size + 2) sz (.bool fr.s) (.slice A7 fr.a.length c7) (.slice D7 fr.b.length d7) (.bool fi.s) (.slice A8 fi.a.length c8) (.slice D8 fi.b.length d8)
  have O4 := Q4.put6 (b := w.heap.size + 2) sz (.bool fr.s) (.slice A7 fr.a.length c7) (.slice D7 fr.b.length d7) (.bool fi.s) (.slice A8 fi.a.length c8) (.slice D8 fi.b.length d8)
  have r0' := s6.cell 0
  have r1' := s6.cell 1
  have r2' := s6.cell 2
  have r3' := s6.cell 3
  have r4' := s6.cell 4
  have r5' := s6.cell 5
  unfold wr6 wr3 at s6 B6 O1 O2 O3 O4 r0' r1' r2' r3' r4' r5'
  go_wp2_with fail
  refine bodyPost_ret (v := .tuple #[.agg #[.bool fr.s, .slice A7 fr.a.length c7, .slice D7 fr.b.length d7, .bool fi.s, .slice A8 fi.a.length c8, .slice D8 fi.b.length d8], .int .i64 fk]) (by simp [results, r0', r1', r2', r3', r4', r5', go_sem]) rfl ?_
  have hle := Nat.le_of_lt (Nat.lt_of_succ_lt (Nat.lt_of_succ_lt sz))
  exact ⟨A7, c7, D7, d7, A8, c8, D8, d8, rfl, O1.base_le hle, O2.base_le hle, O3.base_le hle, O4.base_le hle, B6⟩


end Go.Proofs.YtilhnjecnhpmlaaDoor
namespace Go.Proofs.YtilhnjecnhpmlaaDoor
open Go.RowKit

/-- a struct made within a region, put there: what is kept -/
theorem S2.wr {w w1 : World} {b n g : Nat} {l1 : List Value} (h : S2 w b l1 n w1) (hg : b + 1 < g) (x y z : Value) : S2 w b l1 n (Go.Proofs.YtilhnjecnhpmlaaDoor.wr3 w1 g x y z) :=
  ⟨h.1.wr3 (by omega) x y z, (h.2.1.sb.wr3 (by omega) x y z).rc (by simp), wr3_below h.2.2 (by omega) x y z⟩
theorem S2.re {w w1 : World} {b n : Nat} {l1 : List Value} {o o' : Obj} (h : S2 w b l1 n (w1.alloc o)) (hg : b + 1 < w1.heap.size) : S2 w b l1 n (w1.alloc o') := by
  have e : ∀ (q : Obj) (k : Nat), k < w1.heap.size → (w1.alloc q).heap[k]? = w1.heap[k]? := fun q k hk => (bal w1 q).block k hk
  have hc : ∀ (p : Addr), p.block < w1.heap.size → (w1.alloc o').cell? p = (w1.alloc o).cell? p := fun p hp => ((bal w1 o').cell hp).trans ((bal w1 o).cell hp).symm
  have hf : ∀ (p : Addr), p.block < w1.heap.size → (w1.alloc o').frozen? p = (w1.alloc o).frozen? p := fun p hp => ((bal w1 o').frozen hp).trans ((bal w1 o).frozen hp).symm
  have hs : ∀ (k : Nat) (vs : List Value), k < w1.heap.size → SB (w1.alloc o) k vs → SB (w1.alloc o') k vs := fun k vs hk h =>
    ⟨fun i v hv => ⟨(hc ⟨k, i, none⟩ hk).trans (h.1 i v hv).1, (hf ⟨k, i, none⟩ hk).trans (h.1 i v hv).2⟩, by simp; omega⟩
  refine ⟨hs _ _ (by omega) h.1, (hs _ _ hg h.2.1.sb).rc (by simp), ?_⟩
  have h3 := h.2.2
  exact ⟨h3.os, h3.tape, h3.output, by have := h3.size; simpa using this, fun k hk => by
    rw [e o' k (by omega), ← e o k (by omega)]; exact h3.block k hk⟩
/-- a slice that lies apart from block r -/
def AV (A : Option Addr) (r : Nat) : Prop := ∀ b o, A = some ⟨b, o, none⟩ → b ≠ r
theorem av {w : World} {base r : Nat} {A : Option Addr} {c : Nat} {l : List Nat} (h : OW w base A c l) (hr : r < base) : AV A r := fun b o e => by
  subst e
  rcases h.form with ⟨e, _⟩ | ⟨g, e, hb, _⟩
  · cases e
  · simp only [Option.some.injEq, Addr.mk.injEq, and_true] at e
    omega
theorem sgt {w : World} {g : Nat} {l : List Value} (h : SB w g l) {x y z : Value} : g < (Go.Proofs.YtilhnjecnhpmlaaDoor.wr3 w g x y z).heap.size := by simpa [World.setCell] using h.2
theorem rwg {w : World} {base B : Nat} {A : Option Addr} {c : Nat} {l : List Nat} {g : Nat} {x y z : Value} (h : OW (Go.Proofs.YtilhnjecnhpmlaaDoor.wr3 w g x y z) base A c l) (hB : B = w.heap.size := by simp [World.setCell]) : RW (Go.Proofs.YtilhnjecnhpmlaaDoor.wr3 w g x y z) B A c l :=
  h.rw.more (by rw [hB]; simp [World.setCell])
theorem RW.apart {w : World} {B r : Nat} {A : Option Addr} {c : Nat} {l : List Nat} (h : RW w B A c l) (ha : AV A r) {p : Addr} (hp : p.block = r) (v : Value) : RW (w.setCell p v) B A c l :=
  ⟨⟨h.1.1, h.1.2.1, fun hn => by
    obtain ⟨b, o, e, hb, hc⟩ := h.1.2.2 hn
    refine ⟨b, o, e, hb, fun k x hk => (World.cell?_setCell_other w _ _ v ?_).trans (hc k x hk)⟩
    intro e2
    rw [e2] at hp
    exact ha b o e hp⟩, h.2⟩
theorem RW.apart6 {w : World} {B r : Nat} {A : Option Addr} {c : Nat} {l : List Nat} (h : RW w B A c l) (ha : AV A r) (x y z x' y' z' : Value) : RW (Go.Proofs.YtilhnjecnhpmlaaDoor.wr6 w r x y z x' y' z') B A c l :=
  (((((h.apart ha (p := ⟨r, 0, none⟩) rfl x).apart ha (p := ⟨r, 1, none⟩) rfl y).apart ha (p := ⟨r, 2, none⟩) rfl z).apart ha (p := ⟨r, 3, none⟩) rfl x').apart ha (p := ⟨r, 4, none⟩) rfl y').apart ha (p := ⟨r, 5, none⟩) rfl z'
/-- what the second region keeps -/
def SI (w : World) (b : Nat) (l : List Value) (g : Nat) (l3 : List Value) (A : Option Addr) (c : Nat) (la : List Nat) (D : Option Addr) (d : Nat) (ld : List Nat) (w' : World) : Prop :=
  S2 w b l 6 w' ∧ SB w' g l3 ∧ (RW w' w'.heap.size A c la ∧ RW w' w'.heap.size D d ld) ∧ AV A (b + 1) ∧ AV D (b + 1) ∧ b + 1 < g
section
variable {w w1 w2 : World} {b g : Nat} {l l3 : List Value} {A : Option Addr} {c : Nat} {la : List Nat} {D : Option Addr} {d : Nat} {ld : List Nat}
theorem SI.nx (h : SI w b l g l3 A c la D d ld w1) (hb : Below w1.heap.size w1 w2) : SI w b l g l3 A c la D d ld w2 :=
  ⟨h.1.nx hb, h.2.1.nx hb, ⟨st h.2.2.1.1 hb, st h.2.2.1.2 hb⟩, h.2.2.2⟩
theorem SI.dr (h : SI w b l g l3 A c la D d ld w1) : SI w b l g l3 A c la D d ld w1.drew := h.nx (Below.drew (Below.refl _ _))
theorem SI.put6 (h : SI w b l g l3 A c la D d ld w1) (x y z x' y' z' : Value) : SI w b l g l3 A c la D d ld (Go.Proofs.YtilhnjecnhpmlaaDoor.wr6 w1 (b + 1) x y z x' y' z') := by
  have hsz : (Go.Proofs.YtilhnjecnhpmlaaDoor.wr6 w1 (b + 1) x y z x' y' z').heap.size = w1.heap.size := by simp [World.setCell]
  refine ⟨h.1.put6 x y z x' y' z', h.2.1.wr6 (by have := h.2.2.2.2.2; omega) x y z x' y' z', ⟨?_, ?_⟩, h.2.2.2⟩
  · rw [hsz]; exact h.2.2.1.1.apart6 h.2.2.2.1 x y z x' y' z'
  · rw [hsz]; exact h.2.2.1.2.apart6 h.2.2.2.2.1 x y z x' y' z'
end
/-- the square of a number's size -/
theorem sq_nonneg' (x : Rat) : 0 ≤ x * x := by
  rcases Rat.le_total (a := 0) (b := x) with h | h
  · exact Rat.mul_nonneg h h
  · have h1 : 0 ≤ -x := by
      have := Rat.add_le_add_left (c := -x) |>.2 h
      rwa [Rat.neg_add_cancel, Rat.add_zero] at this
    have h2 := Rat.mul_nonneg h1 h1
    rwa [Rat.neg_mul, Rat.mul_neg, Rat.neg_neg] at h2
theorem norm_pos' {x y : Rat} (h : ¬ (x = 0 ∧ y = 0)) : qn (x * x + y * y) = false ∧ qt (x * x + y * y) ≠ 0 := by
  have h1 := sq_nonneg' x
  have h2 := sq_nonneg' y
  have h3 := Rat.add_nonneg h1 h2
  constructor
  · cases hq : qn (x * x + y * y) with
    | false => rfl
    | true => exact absurd (qn_iff.1 hq) (Rat.not_lt.2 h3)
  · intro h0
    have h4 := qt_zero.1 h0
    have h5 : x * x ≤ 0 := by
      have := Rat.add_le_add_left (c := x * x) |>.2 h2
      rwa [Rat.add_zero, h4] at this
    have h6 : x * x = 0 := Rat.le_antisymm h5 h1
    rw [h6, Rat.zero_add] at h4
    rcases Rat.mul_eq_zero.1 h6 with e | e <;> rcases Rat.mul_eq_zero.1 h4 with f | f <;> exact h ⟨e, f⟩
theorem rq_inv {w : World} {B : Nat} {A : Option Addr} {c : Nat} {D : Option Addr} {d : Nat} {q : Rat} (h1 : qn q = false) (h2 : qt q ≠ 0) (r1 : RW w B A c (digs (qt q))) (r2 : RW w B D d (digs (qd q))) :
    RQ w B (.agg #[.bool false, .slice D (digs (qd q)).length d, .slice A (digs (qt q)).length c]) q⁻¹ := by
  obtain ⟨e1, e2, e3⟩ := q_inv_t h1 h2
  refine ⟨D, d, A, c, ?_, ?_, ?_⟩
  · rw [e1, e2, e3]
  · rw [e1]; exact r2
  · rw [e2]; exact r1
theorem qw_inv {q : Rat} (h1 : qn q = false) (h2 : qt q ≠ 0) : qw q⁻¹ = qw q := by
  obtain ⟨e1, e2, _⟩ := q_inv_t h1 h2
  unfold qw; rw [e1, e2, Nat.max_comm]


end Go.Proofs.YtilhnjecnhpmlaaDoor
namespace Go.Proofs.YtilhnjecnhpmlaaDoor
open Go.RowKit

/-- a number made within a region, put there: what is kept -/
theorem S3.wr {w w1 : World} {b n g : Nat} {l1 l2 : List Value} (h : S3 w b l1 l2 n w1) (hg : b + 2 < g) (x y z x' y' z' : Value) : S3 w b l1 l2 n (Go.Proofs.YtilhnjecnhpmlaaDoor.wr6 w1 g x y z x' y' z') :=
  ⟨h.1.wr6 (by omega) x y z x' y' z', h.2.1.wr6 (by omega) x y z x' y' z', (h.2.2.1.sb.wr6 (by omega) x y z x' y' z').rc (by simp), wr6_below h.2.2.2 (by omega) x y z x' y' z'⟩
theorem S3.re {w w1 : World} {b n : Nat} {l1 l2 : List Value} {o o' : Obj} (h : S3 w b l1 l2 n (w1.alloc o)) (hg : b + 2 < w1.heap.size) : S3 w b l1 l2 n (w1.alloc o') := by
  have e : ∀ (q : Obj) (k : Nat), k < w1.heap.size → (w1.alloc q).heap[k]? = w1.heap[k]? := fun q k hk => (bal w1 q).block k hk
  have hc : ∀ (p : Addr), p.block < w1.heap.size → (w1.alloc o').cell? p = (w1.alloc o).cell? p := fun p hp => ((bal w1 o').cell hp).trans ((bal w1 o).cell hp).symm
  have hf : ∀ (p : Addr), p.block < w1.heap.size → (w1.alloc o').frozen? p = (w1.alloc o).frozen? p := fun p hp => ((bal w1 o').frozen hp).trans ((bal w1 o).frozen hp).symm
  have hs : ∀ (k : Nat) (vs : List Value), k < w1.heap.size → SB (w1.alloc o) k vs → SB (w1.alloc o') k vs := fun k vs hk h =>
    ⟨fun i v hv => ⟨(hc ⟨k, i, none⟩ hk).trans (h.1 i v hv).1, (hf ⟨k, i, none⟩ hk).trans (h.1 i v hv).2⟩, by simp; omega⟩
  refine ⟨hs _ _ (by omega) h.1, hs _ _ (by omega) h.2.1, (hs _ _ hg h.2.2.1.sb).rc (by simp), ?_⟩
  have h3 := h.2.2.2
  exact ⟨h3.os, h3.tape, h3.output, by have := h3.size; simpa using this, fun k hk => by
    rw [e o' k (by omega), ← e o k (by omega)]; exact h3.block k hk⟩
theorem SB.put6 {w : World} {b : Nat} {a0 a1 a2 a3 a4 a5 : Value} (h : SB w b [a0, a1, a2, a3, a4, a5]) (x y z x' y' z' : Value) : SB (Go.Proofs.YtilhnjecnhpmlaaDoor.wr6 w b x y z x' y' z') b [x, y, z, x', y', z'] :=
  (((((h.set 0 x).set 1 y).set 2 z).set 3 x').set 4 y').set 5 z'
theorem sgt6 {w : World} {g : Nat} {l : List Value} (h : SB w g l) {x y z x' y' z' : Value} : g < (Go.Proofs.YtilhnjecnhpmlaaDoor.wr6 w g x y z x' y' z').heap.size := by simpa [World.setCell] using h.2
theorem RN.st {w w' : World} {V : Value} {x y : Rat} (h : RN w w.heap.size V x y) (hb : Below w.heap.size w w') : RN w' w'.heap.size V x y := VN.st h hb
theorem gtz {w : World} {n g : Nat} {l : List Value} (_ : SB w g l) (h : n + 2 < g) : n + 2 < g := h
/-- a number is 0 -/
def zeroB (r i : Rw) : Bool := decide (r.a.length = 0) && decide (i.a.length = 0)
theorem zeroB_q {x y : Rat} : zeroB (rwq x) (rwq y) = decide (x = 0 ∧ y = 0) := by
  have h : ∀ q : Rat, decide ((digs (qt q)).length = 0) = decide (q = 0) := fun q => decide_eq_decide.2 ⟨fun h => qt_zero.1 (digs_len0.1 h), fun h => digs_len0.2 (qt_zero.2 h)⟩
  unfold zeroB rwq
  dsimp only
  rw [h, h, Bool.decide_and]
theorem nB_qq0 {p q : Rat} (h1 : qw p ≤ 512) (h2 : qw q ≤ 512) : nB (rwq p) (rwq q) = true := nB_qq h1 h2


end Go.Proofs.YtilhnjecnhpmlaaDoor
namespace Go.Proofs.YtilhnjecnhpmlaaDoor
open Go.RowKit


end Go.Proofs.YtilhnjecnhpmlaaDoor
namespace Go.Proofs.YtilhnjecnhpmlaaDoor
open Go.RowKit

/-- the rational number that a raw fraction is -/
def qv (r : Rw) : Rat := ratN r.s (val r.a) (val r.b)
theorem qv_rwq (q : Rat) : qv (rwq q) = q := by unfold qv rwq; dsimp only; rw [val_digs, val_digs, q_self]
theorem rw_rat {r : Rw} (h : rsB r.s r.a r.b = true) : ∃ q, r = rwq q ∧ qw q ≤ 512 := by
  obtain ⟨s, a, b⟩ := r
  obtain ⟨q, rfl, rfl, rfl, hq⟩ := rsB_rat h
  exact ⟨q, rfl, hq⟩
theorem nB_rat {r i : Rw} (h : nB r i = true) : ∃ x y, r = rwq x ∧ i = rwq y ∧ qw x ≤ 512 ∧ qw y ≤ 512 := by
  unfold nB at h
  rw [Bool.and_eq_true] at h
  obtain ⟨x, e1, h1⟩ := rw_rat h.1
  obtain ⟨y, e2, h2⟩ := rw_rat h.2
  exact ⟨x, y, e1, e2, h1, h2⟩
theorem nB_rwq {x y : Rat} (h1 : qw x ≤ 512) (h2 : qw y ≤ 512) : nB (rwq x) (rwq y) = true := nB_qq h1 h2
theorem rwq_inj {p q : Rat} (h : rwq p = rwq q) : p = q := by rw [← qv_rwq p, h, qv_rwq]
theorem VN.rn {w : World} {B : Nat} {V : Value} {x y : Rat} (h : VN w B V (rwq x) (rwq y)) : RN w B V x y := h

def qaddA (r i r' i' : Rw) : Rw × Rw × Int := if nB r i = true ∧ nB r' i' = true then fitQ (qv r + qv r') (qv i + qv i') else (rw0, rw0, 2)
def qsubA (r i r' i' : Rw) : Rw × Rw × Int := if nB r i = true ∧ nB r' i' = true then fitQ (qv r + -qv r') (qv i + -qv i') else (rw0, rw0, 2)
def qmulA (r i r' i' : Rw) : Rw × Rw × Int := if nB r i = true ∧ nB r' i' = true then fitQ (qv r * qv r' + -(qv i * qv i')) (qv r * qv i' + qv i * qv r') else (rw0, rw0, 2)
/-- what a number is divided by: multiplied with its inverse -/
def divQ (x y u v : Rat) : Rw × Rw × Int := fitQ (x * (u * (u * u + v * v)⁻¹) + -(y * (-v * (u * u + v * v)⁻¹))) (x * (-v * (u * u + v * v)⁻¹) + y * (u * (u * u + v * v)⁻¹))
def qdivA (r i r' i' : Rw) : Rw × Rw × Int := if nB r i = true ∧ nB r' i' = true then (if qv r' = 0 ∧ qv i' = 0 then (rw0, rw0, 3) else divQ (qv r) (qv i) (qv r') (qv i')) else (rw0, rw0, 2)

variable {V U : Value} {r i r' i' : Rw} {w : World}
theorem eadd_any (hV : VN w w.heap.size V r i) (hU : VN w w.heap.size U r' i') : Calls Tryd.prog 45 #[V, U] w (RetNE w (qaddA r i r' i')) := by
  unfold qaddA
  by_cases h : nB r i = true ∧ nB r' i' = true
  · rw [if_pos h]
    obtain ⟨x, y, rfl, rfl, h1, h2⟩ := nB_rat h.1
    obtain ⟨u, v, rfl, rfl, h3, h4⟩ := nB_rat h.2
    rw [qv_rwq, qv_rwq, qv_rwq, qv_rwq]
    exact eadd_ok V U x y u v w hV hU h1 h2 h3 h4
  · rw [if_neg h]
    exact eadd_bad V U r i r' i' w hV hU h
end Go.Proofs.YtilhnjecnhpmlaaDoor
namespace Go.Proofs.YtilhnjecnhpmlaaDoor
open Go.RowKit

/-- what a region keeps: two structs -/
def T2 (w : World) (b : Nat) (l1 l2 : List Value) (w' : World) : Prop := SB w' b l1 ∧ SB w' (b + 1) l2 ∧ Below b w w'
theorem gt1 {w : World} {n g : Nat} {l : List Value} (_ : SB w g l) (h : n + 1 < g) : n + 1 < g := h
section
variable {w w1 w2 : World} {b g : Nat} {l1 l2 : List Value}
theorem T2.nx (h : T2 w b l1 l2 w1) (hb : Below w1.heap.size w1 w2) : T2 w b l1 l2 w2 :=
  ⟨h.1.nx hb, h.2.1.nx hb, h.2.2.trans (hb.mono (by have := h.1.2; omega))⟩
theorem T2.dr (h : T2 w b l1 l2 w1) : T2 w b l1 l2 w1.drew := ⟨h.1, h.2.1, bdN h.2.2 1⟩
theorem T2.wr (h : T2 w b l1 l2 w1) (hg : b + 1 < g) (x y z : Value) : T2 w b l1 l2 (Go.Proofs.YtilhnjecnhpmlaaDoor.wr3 w1 g x y z) :=
  ⟨h.1.wr3 (by omega) x y z, h.2.1.wr3 (by omega) x y z, wr3_below h.2.2 (by omega) x y z⟩
theorem T2.re {o o' : Obj} (h : T2 w b l1 l2 (w1.alloc o)) (hg : b + 1 < w1.heap.size) : T2 w b l1 l2 (w1.alloc o') := by
  have e : ∀ (q : Obj) (k : Nat), k < w1.heap.size → (w1.alloc q).heap[k]? = w1.heap[k]? := fun q k hk => (bal w1 q).block k hk
  have hc : ∀ (p : Addr), p.block < w1.heap.size → (w1.alloc o').cell? p = (w1.alloc o).cell? p := fun p hp => ((bal w1 o').cell hp).trans ((bal w1 o).cell hp).symm
  have hf : ∀ (p : Addr), p.block < w1.heap.size → (w1.alloc o').frozen? p = (w1.alloc o).frozen? p := fun p hp => ((bal w1 o').frozen hp).trans ((bal w1 o).frozen hp).symm
  have hs : ∀ (k : Nat) (vs : List Value), k < w1.heap.size → SB (w1.alloc o) k vs → SB (w1.alloc o') k vs := fun k vs hk h =>
    ⟨fun i v hv => ⟨(hc ⟨k, i, none⟩ hk).trans (h.1 i v hv).1, (hf ⟨k, i, none⟩ hk).trans (h.1 i v hv).2⟩, by simp; omega⟩
  refine ⟨hs _ _ (by omega) h.1, hs _ _ hg h.2.1, ?_⟩
  have h3 := h.2.2
  exact ⟨h3.os, h3.tape, h3.output, by have := h3.size; simpa using this, fun k hk => by
    rw [e o' k (by omega), ← e o k (by omega)]; exact h3.block k hk⟩
theorem T2.new (w : World) (l1 l2 : List Value) (t1 t2 : TypeId) : T2 w w.heap.size l1 l2 ((w.alloc (.cells l1.toArray t1)).alloc (.cells l2.toArray t2)) := by
  have s1 := SB.new w l1 t1
  have s2 := SB.new (w.alloc (.cells l1.toArray t1)) l2 t2
  rw [show (w.alloc (.cells l1.toArray t1)).heap.size = w.heap.size + 1 by simp] at s2
  have B1 := bal w (.cells l1.toArray t1)
  have B2 := bal (w.alloc (.cells l1.toArray t1)) (.cells l2.toArray t2)
  exact ⟨s1.nx B2, s2, bt B1 B2⟩
end


set_option maxRecDepth 100000 in
set_option maxHeartbeats 16000000 in
theorem eorder_any (V U : Value) (x y : Rat) (w : World) (hx : RQ w w.heap.size V x) (hy : RQ w w.heap.size U y) (hb' : qw x + qw y ≤ 14000) :
    Calls Tryd.prog 84 #[V, U] w fun e w' => e = .returned (.int .i64 (cmpQ x y)) ∧ Below w.heap.size w w' := by
  obtain ⟨A1, c1, D1, d1, rfl, r1, r2⟩ := hx
  obtain ⟨A2, c2, D2, d2, rfl, r3, r4⟩ := hy
  have hx : RQ w w.heap.size (.agg #[.bool (qn x), .slice A1 (digs (qt x)).length c1, .slice D1 (digs (qd x)).length d1]) x := ⟨A1, c1, D1, d1, rfl, r1, r2⟩
  have k0 := T2.new w [.bool (qn x), .slice A1 (digs (qt x)).length c1, .slice D1 (digs (qd x)).length d1] [.bool (qn y), .slice A2 (digs (qt y)).length c2, .slice D2 (digs (qd y)).length d2] 26 26
  have hb : qw x + qw (-y) ≤ 14000 := by rw [qw_neg]; exact hb'
  have conjS : ∀ w', T2 w w.heap.size [.bool (qn x), .slice A1 (digs (qt x)).length c1, .slice D1 (digs (qd x)).length d1] [.bool (qn y), .slice A2 (digs (qt y)).length c2, .slice D2 (digs (qd y)).length d2] w' → w'.cell? ⟨w.heap.size, 0, none⟩ = some (.bool (qn x)) ∧ w'.cell? ⟨w.heap.size, 1, none⟩ = some (.slice A1 (digs (qt x)).length c1) ∧ w'.cell? ⟨w.heap.size, 2, none⟩ = some (.slice D1 (digs (qd x)).length d1) ∧ w'.cell? ⟨w.heap.size + 1, 0, none⟩ = some (.bool (qn y)) ∧ w'.cell? ⟨w.heap.size + 1, 1, none⟩ = some (.slice A2 (digs (qt y)).length c2) ∧ w'.cell? ⟨w.heap.size + 1, 2, none⟩ = some (.slice D2 (digs (qd y)).length d2) ∧ T2 w w.heap.size [.bool (qn x), .slice A1 (digs (qt x)).length c1, .slice D1 (digs (qd x)).length d1] [.bool (qn y), .slice A2 (digs (qt y)).length c2, .slice D2 (digs (qd y)).length d2] w' := fun w' h => ⟨h.1.cell 0, h.1.cell 1, h.1.cell 2, h.2.1.cell 0, h.2.1.cell 1, h.2.1.cell 2, h⟩
  obtain ⟨z, hz⟩ : ∃ z, Hid (cmpQ x y = z) := ⟨_, rfl⟩
  rw [hz.out]
  go_enter Tryd.func84, Tryd.ntmps84
  obtain ⟨W0, hW0⟩ : ∃ W0, W0 = (w.alloc (.cells #[.bool (qn x), .slice A1 (digs (qt x)).length c1, .slice D1 (digs (qd x)).length d1] 26)).alloc (.cells #[.bool (qn y), .slice A2 (digs (qt y)).length c2, .slice D2 (digs (qd y)).length d2] 26) := ⟨_, rfl⟩
  go_wp2_with fail
  rw [← hW0] at k0 ⊢
  clear hW0
  have z00 := k0.2.1.2
  go_upto_region 1 with fail
  go_cut [5] (fun s5 wx => ∃ (g : Nat) (A : Option Addr) (c : Nat) (D : Option Addr) (d : Nat), s5 = .pointer (some ⟨g, 0, none⟩) ∧ SB wx g [.bool (qn (x + -y)), .slice A (digs (qt (x + -y))).length c, .slice D (digs (qd (x + -y))).length d] ∧ Below w.heap.size w wx)
  case first =>
    have k0d := k0.dr
    have k0s := And.intro (k0d.1.cell 0) (And.intro (k0d.1.cell 1) (And.intro (k0d.1.cell 2) (And.intro (k0d.2.1.cell 0) (And.intro (k0d.2.1.cell 1) (And.intro (k0d.2.1.cell 2) (k0d))))))
    go_region_held3 (fun w' => w'.cell? ⟨w.heap.size, 0, none⟩ = some (.bool (qn x)) ∧ w'.cell? ⟨w.heap.size, 1, none⟩ = some (.slice A1 (digs (qt x)).length c1) ∧ w'.cell? ⟨w.heap.size, 2, none⟩ = some (.slice D1 (digs (qd x)).length d1) ∧ w'.cell? ⟨w.heap.size + 1, 0, none⟩ = some (.bool (qn y)) ∧ w'.cell? ⟨w.heap.size + 1, 1, none⟩ = some (.slice A2 (digs (qt y)).length c2) ∧ w'.cell? ⟨w.heap.size + 1, 2, none⟩ = some (.slice D2 (digs (qd y)).length d2) ∧ T2 w w.heap.size [.bool (qn x), .slice A1 (digs (qt x)).length c1, .slice D1 (digs (qd x)).length d1] [.bool (qn y), .slice A2 (digs (qt y)).length c2, .slice D2 (digs (qd y)).length d2] w')
      (first
        | with_reducible exact kws.out
        | with_reducible exact k0s
        | (have s1 := (by with_reducible assumption : _ ∧ _ ∧ _ ∧ _ ∧ _ ∧ _ ∧ T2 w w.heap.size [.bool (qn x), .slice A1 (digs (qt x)).length c1, .slice D1 (digs (qd x)).length d1] [.bool (qn y), .slice A2 (digs (qt y)).length c2, .slice D2 (digs (qd y)).length d2] _).2.2.2.2.2.2.nx BX; have q0_ := s1.1.cell 0; have q1_ := s1.1.cell 1; have q2_ := s1.1.cell 2; have q3_ := s1.2.1.cell 0; have q4_ := s1.2.1.cell 1; have q5_ := s1.2.1.cell 2; with_reducible exact ⟨q0_, q1_, q2_, q3_, q4_, q5_, s1⟩)
        | with_reducible exact conjS _ ((by with_reducible assumption : _ ∧ _ ∧ _ ∧ _ ∧ _ ∧ _ ∧ T2 w w.heap.size [.bool (qn x), .slice A1 (digs (qt x)).length c1, .slice D1 (digs (qd x)).length d1] [.bool (qn y), .slice A2 (digs (qt y)).length c2, .slice D2 (digs (qd y)).length d2] _).2.2.2.2.2.2.nx (bal _ _))
        | (with_reducible refine conjS _ (T2.re (by with_reducible assumption : _ ∧ _ ∧ _ ∧ _ ∧ _ ∧ _ ∧ T2 w w.heap.size [.bool (qn x), .slice A1 (digs (qt x)).length c1, .slice D1 (digs (qd x)).length d1] [.bool (qn y), .slice A2 (digs (qt y)).length c2, .slice D2 (digs (qd y)).length d2] _).2.2.2.2.2.2 ?_); assumption))
      (first
        | (go_at_call 97; have hh := (by with_reducible assumption : _ ∧ _ ∧ _ ∧ _ ∧ _ ∧ _ ∧ T2 w w.heap.size [.bool (qn x), .slice A1 (digs (qt x)).length c1, .slice D1 (digs (qd x)).length d1] [.bool (qn y), .slice A2 (digs (qt y)).length c2, .slice D2 (digs (qd y)).length d2] _).2.2.2.2.2.2; refine (minus_any y A2 D2 c2 d2 _).mono ?_; rintro e w12 ⟨rfl, BX⟩; have B12 := BX; have z12 := (hh.nx BX).2.1.2; (first | (have sg := sg.nx BX; have g0 := sg.cell 0; have g1 := sg.cell 1; have g2 := sg.cell 2; have h0 := sg.frozen 0; have h1 := sg.frozen 1; have h2 := sg.frozen 2) | (have sg := (SB.new _ [.bool false, .slice none 0 0, .slice none 0 0] 26).nx BX; have g0 := sg.cell 0; have g1 := sg.cell 1; have g2 := sg.cell 2; have h0 := sg.frozen 0; have h1 := sg.frozen 1; have h2 := sg.frozen 2) | (have sg := ((SB.new _ [.bool false, .slice none 0 0, .slice none 0 0] 26).nx (Below.drew (Below.refl _ _))).nx BX; have g0 := sg.cell 0; have g1 := sg.cell 1; have g2 := sg.cell 2; have h0 := sg.frozen 0; have h1 := sg.frozen 1; have h2 := sg.frozen 2) | skip))
        | ((first | have gl := sg.2 | skip); go_at_call 58; have hh := (by with_reducible assumption : _ ∧ _ ∧ _ ∧ _ ∧ _ ∧ _ ∧ T2 w w.heap.size [.bool (qn x), .slice A1 (digs (qt x)).length c1, .slice D1 (digs (qd x)).length d1] [.bool (qn y), .slice A2 (digs (qt y)).length c2, .slice D2 (digs (qd y)).length d2] _).2.2.2.2.2.2; refine (sum_any _ _ x (-y) _ (hx.st hh.2.2) ⟨A2, c2, D2, d2, rfl, by rw [q_neg_t]; exact st r3 hh.2.2, by rw [q_neg_d]; exact st r4 hh.2.2⟩ hb).mono ?_; rintro e w16 ⟨A16, c16, D16, d16, rfl, O16, P16, BX⟩; have B16 := BX; have z16 := (hh.nx BX).2.1.2; have kk := hh.nx BX; (first | (have sg := sg.nx BX; have g0 := sg.cell 0; have g1 := sg.cell 1; have g2 := sg.cell 2; have h0 := sg.frozen 0; have h1 := sg.frozen 1; have h2 := sg.frozen 2) | (have sg := (SB.new _ [.bool false, .slice none 0 0, .slice none 0 0] 26).nx BX; have g0 := sg.cell 0; have g1 := sg.cell 1; have g2 := sg.cell 2; have h0 := sg.frozen 0; have h1 := sg.frozen 1; have h2 := sg.frozen 2) | (have sg := ((SB.new _ [.bool false, .slice none 0 0, .slice none 0 0] 26).nx (Below.drew (Below.refl _ _))).nx BX; have g0 := sg.cell 0; have g1 := sg.cell 1; have g2 := sg.cell 2; have h0 := sg.frozen 0; have h1 := sg.frozen 1; have h2 := sg.frozen 2) | skip); (first | (have gz := gt1 (n := w.heap.size) sg (by first | assumption | (simp; omega)); have kw := Lib.hid (T2.wr kk gz (.bool (qn (x + -y))) (.slice A16 (digs (qt (x + -y))).length c16) (.slice D16 (digs (qd (x + -y))).length d16)); have kws := Lib.hid (conjS _ kw.out)) | skip)))
    all_goals
      go_wp2_with fail
      go_meet
      first
        | exact ⟨_, A16, c16, D16, d16, rfl, SB.new w16 _ _, (kk.nx (bal _ _)).2.2⟩
        | exact ⟨_, A16, c16, D16, d16, rfl, SB.put3 sg _ _ _, kw.out.2.2⟩
  case rest =>
    obtain ⟨g, A, c, D, d, rfl, sg, BZ⟩ := hcut
    have hz := hz.out
    unfold cmpQ at hz
    have g0 := sg.cell 0
    have g1 := sg.cell 1
    have ht : (digs (qt (x + -y))).length = 0 ↔ qt (x + -y) = 0 := digs_len0
    generalize qt (x + -y) = t at *
    generalize (digs t).length = n at *
    clear k0 sg hx hb hb' conjS r1 r2 r3 r4
    generalize qn (x + -y) = s at *
    cases s with
    | true =>
      rw [if_pos rfl] at hz
      subst hz
      go_wp2_with fail
      go_ret
      exact ⟨rfl, BZ⟩
    | false =>
      rw [if_neg (by simp)] at hz
      by_cases h0 : n = 0
      · rw [if_neg (by have := ht.1 h0; omega)] at hz
        subst hz
        subst h0
        go_wp2_with fail
        go_ret
        exact ⟨rfl, BZ⟩
      · rw [if_pos (by omega)] at hz
        subst hz
        have h1 : decide (0 < (n : Int)) = true := by simp; omega
        have h2 : (0 : Int) < (n : Int) := by omega
        go_wp2_with fail
        go_ret
        exact ⟨rfl, BZ⟩


def qcmpA (r i r' i' : Rw) : Int × Int := if chkN2 true r i r' i' = 0 then (cmpQ (qv r) (qv r'), 0) else (0, chkN2 true r i r' i')
set_option maxRecDepth 100000 in
set_option maxHeartbeats 4000000 in
theorem ecmp_bad (V U : Value) (r i r' i' : Rw) (w : World) (hV : VN w w.heap.size V r i) (hU : VN w w.heap.size U r' i') (hb : ¬ chkN2 true r i r' i' = 0) :
    Calls Tryd.prog 63 #[V, U] w fun e w' => e = .returned (.tuple #[.int .i64 0, .int .i64 (chkN2 true r i r' i')]) ∧ Below w.heap.size w w' := by
  obtain ⟨s1, a1, b1⟩ := r
  obtain ⟨s2, a2, b2⟩ := i
  obtain ⟨t1, g1, h1⟩ := r'
  obtain ⟨t2, g2, h2⟩ := i'
  obtain ⟨A1, c1, D1, d1, A2, c2, D2, d2, rfl, p1, p2, p3, p4⟩ := hV
  obtain ⟨E1, e1, F1, f1, E2, e2, F2, f2, rfl, p5, p6, p7, p8⟩ := hU
  dsimp only at p1 p2 p3 p4 p5 p6 p7 p8 ⊢
  have k0 := T2.new w [.bool s1, .slice A1 a1.length c1, .slice D1 b1.length d1, .bool s2, .slice A2 a2.length c2, .slice D2 b2.length d2] [.bool t1, .slice E1 g1.length e1, .slice F1 h1.length f1, .bool t2, .slice E2 g2.length e2, .slice F2 h2.length f2] 28 28
  have C0 := k0.2.2
  have z3 : ((w.alloc (.cells #[.bool s1, .slice A1 a1.length c1, .slice D1 b1.length d1, .bool s2, .slice A2 a2.length c2, .slice D2 b2.length d2] 28)).alloc (.cells #[.bool t1, .slice E1 g1.length e1, .slice F1 h1.length f1, .bool t2, .slice E2 g2.length e2, .slice F2 h2.length f2] 28)).heap.size = w.heap.size + 2 := by simp
  have Bs := bal ((w.alloc (.cells #[.bool s1, .slice A1 a1.length c1, .slice D1 b1.length d1, .bool s2, .slice A2 a2.length c2, .slice D2 b2.length d2] 28)).alloc (.cells #[.bool t1, .slice E1 g1.length e1, .slice F1 h1.length f1, .bool t2, .slice E2 g2.length e2, .slice F2 h2.length f2] 28)) (.cells #[.bool s1, .slice A1 a1.length c1, .slice D1 b1.length d1, .bool s2, .slice A2 a2.length c2, .slice D2 b2.length d2, .bool t1, .slice E1 g1.length e1, .slice F1 h1.length f1, .bool t2, .slice E2 g2.length e2, .slice F2 h2.length f2] 28)
  have sg := SB.new ((w.alloc (.cells #[.bool s1, .slice A1 a1.length c1, .slice D1 b1.length d1, .bool s2, .slice A2 a2.length c2, .slice D2 b2.length d2] 28)).alloc (.cells #[.bool t1, .slice E1 g1.length e1, .slice F1 h1.length f1, .bool t2, .slice E2 g2.length e2, .slice F2 h2.length f2] 28)) [.bool s1, .slice A1 a1.length c1, .slice D1 b1.length d1, .bool s2, .slice A2 a2.length c2, .slice D2 b2.length d2, .bool t1, .slice E1 g1.length e1, .slice F1 h1.length f1, .bool t2, .slice E2 g2.length e2, .slice F2 h2.length f2] 28
  rw [z3] at sg
  have C1 := bt C0 Bs
  have k1 := k0.nx Bs
  have hck := check2x_any true (w.heap.size + 2) _ _ _ _ _ _ _ _ _ _ _ _ _ _ _ _ _ _ _ _ _ _ _ _ _ _ _ _ _ sg (st p1 C1) (st p2 C1) (st p3 C1) (st p4 C1) (st p5 C1) (st p6 C1) (st p7 C1) (st p8 C1)
  generalize chkN2 true ⟨s1, a1, b1⟩ ⟨s2, a2, b2⟩ ⟨t1, g1, h1⟩ ⟨t2, g2, h2⟩ = k at *
  have hb2 : (k == 0) = false := beq_eq_false_iff_ne.2 hb
  clear sg k0 p1 p2 p3 p4 p5 p6 p7 p8
  go_enter Tryd.func63, Tryd.ntmps63
  go_wp2_with fail
  refine hck.mono ?_; rintro e w3 ⟨rfl, B3⟩
  clear hck
  go_wp2_with fail
  go_ret2
  exact ⟨rfl, bt C1 B3⟩
set_option maxRecDepth 100000 in
set_option maxHeartbeats 4000000 in
theorem ecmp_ok (V U : Value) (x y u v : Rat) (w : World) (hV : RN w w.heap.size V x y) (hU : RN w w.heap.size U u v) (bx : qw x ≤ 512) (bu : qw u ≤ 512) (hz : chkN2 true (rwq x) (rwq y) (rwq u) (rwq v) = 0) :
    Calls Tryd.prog 63 #[V, U] w fun e w' => e = .returned (.tuple #[.int .i64 (cmpQ x u), .int .i64 0]) ∧ Below w.heap.size w w' := by
  obtain ⟨A1, c1, D1, d1, A2, c2, D2, d2, rfl, p1, p2, p3, p4⟩ := hV
  obtain ⟨E1, e1, F1, f1, E2, e2, F2, f2, rfl, p5, p6, p7, p8⟩ := hU
  simp only [rwq] at p1 p2 p3 p4 p5 p6 p7 p8 hz ⊢
  have k0 := T2.new w [.bool (qn x), .slice A1 (digs (qt x)).length c1, .slice D1 (digs (qd x)).length d1, .bool (qn y), .slice A2 (digs (qt y)).length c2, .slice D2 (digs (qd y)).length d2] [.bool (qn u), .slice E1 (digs (qt u)).length e1, .slice F1 (digs (qd u)).length f1, .bool (qn v), .slice E2 (digs (qt v)).length e2, .slice F2 (digs (qd v)).length f2] 28 28
  have C0 := k0.2.2
  have z3 : ((w.alloc (.cells #[.bool (qn x), .slice A1 (digs (qt x)).length c1, .slice D1 (digs (qd x)).length d1, .bool (qn y), .slice A2 (digs (qt y)).length c2, .slice D2 (digs (qd y)).length d2] 28)).alloc (.cells #[.bool (qn u), .slice E1 (digs (qt u)).length e1, .slice F1 (digs (qd u)).length f1, .bool (qn v), .slice E2 (digs (qt v)).length e2, .slice F2 (digs (qd v)).length f2] 28)).heap.size = w.heap.size + 2 := by simp
  have Bs := bal ((w.alloc (.cells #[.bool (qn x), .slice A1 (digs (qt x)).length c1, .slice D1 (digs (qd x)).length d1, .bool (qn y), .slice A2 (digs (qt y)).length c2, .slice D2 (digs (qd y)).length d2] 28)).alloc (.cells #[.bool (qn u), .slice E1 (digs (qt u)).length e1, .slice F1 (digs (qd u)).length f1, .bool (qn v), .slice E2 (digs (qt v)).length e2, .slice F2 (digs (qd v)).length f2] 28)) (.cells #[.bool (qn x), .slice A1 (digs (qt x)).length c1, .slice D1 (digs (qd x)).length d1, .bool (qn y), .slice A2 (digs (qt y)).length c2, .slice D2 (digs (qd y)).length d2, .bool (qn u), .slice E1 (digs (qt u)).length e1, .slice F1 (digs (qd u)).length f1, .bool (qn v), .slice E2 (digs (qt v)).length e2, .slice F2 (digs (qd v)).length f2] 28)
  have sg := SB.new ((w.alloc (.cells #[.bool (qn x), .slice A1 (digs (qt x)).length c1, .slice D1 (digs (qd x)).length d1, .bool (qn y), .slice A2 (digs (qt y)).length c2, .slice D2 (digs (qd y)).length d2] 28)).alloc (.cells #[.bool (qn u), .slice E1 (digs (qt u)).length e1, .slice F1 (digs (qd u)).length f1, .bool (qn v), .slice E2 (digs (qt v)).length e2, .slice F2 (digs (qd v)).length f2] 28)) [.bool (qn x), .slice A1 (digs (qt x)).length c1, .slice D1 (digs (qd x)).length d1, .bool (qn y), .slice A2 (digs (qt y)).length c2, .slice D2 (digs (qd y)).length d2, .bool (qn u), .slice E1 (digs (qt u)).length e1, .slice F1 (digs (qd u)).length f1, .bool (qn v), .slice E2 (digs (qt v)).length e2, .slice F2 (digs (qd v)).length f2] 28
  rw [z3] at sg
  have C1 := bt C0 Bs
  have k1 := k0.nx Bs
  have hck := check2x_any true (w.heap.size + 2) _ _ _ _ _ _ _ _ _ _ _ _ _ _ _ _ _ _ _ _ _ _ _ _ _ _ _ _ _ sg (st p1 C1) (st p2 C1) (st p3 C1) (st p4 C1) (st p5 C1) (st p6 C1) (st p7 C1) (st p8 C1)
  rw [hz] at hck
  have ho := fun V U w' h1 h2 => eorder_any V U x u w' h1 h2 (by omega)
  generalize cmpQ x u = k at *
  clear sg k0 hz bx bu p3 p4 p7 p8
  go_enter Tryd.func63, Tryd.ntmps63
  go_wp2_with fail
  refine hck.mono ?_; rintro e w3 ⟨rfl, B3⟩
  clear hck
  have k3 := k1.nx B3
  have C3 := bt C1 B3
  have i0 := k3.1.cell 0
  have i1 := k3.1.cell 1
  have i2 := k3.1.cell 2
  have j0 := k3.2.1.cell 0
  have j1 := k3.2.1.cell 1
  have j2 := k3.2.1.cell 2
  go_wp2_with fail
  refine (ho _ _ _ ⟨A1, c1, D1, d1, rfl, st p1 C3, st p2 C3⟩ ⟨E1, e1, F1, f1, rfl, st p5 C3, st p6 C3⟩).mono ?_; rintro e w4 ⟨rfl, B4⟩
  go_wp2_with fail
  go_ret2
  exact ⟨rfl, bt C3 B4⟩
theorem chkN2_zero {r i r' i' : Rw} (h : chkN2 true r i r' i' = 0) : nB r i = true ∧ nB r' i' = true ∧ i.a = [] ∧ i'.a = [] := by
  unfold chkN2 at h
  split at h
  · next hn =>
    split at h
    · cases h
    · next hq =>
      refine ⟨hn.1, hn.2, ?_, ?_⟩ <;> apply List.eq_nil_of_length_eq_zero <;> (have := not_and.1 hq rfl; omega)
  · cases h
theorem ecmp_any {V U : Value} {r i r' i' : Rw} {w : World} (hV : VN w w.heap.size V r i) (hU : VN w w.heap.size U r' i') :
    Calls Tryd.prog 63 #[V, U] w fun e w' => e = .returned (.tuple #[.int .i64 (qcmpA r i r' i').1, .int .i64 (qcmpA r i r' i').2]) ∧ Below w.heap.size w w' := by
  unfold qcmpA
  by_cases h : chkN2 true r i r' i' = 0
  · rw [if_pos h]
    obtain ⟨n1, n2, _, _⟩ := chkN2_zero h
    obtain ⟨x, y, rfl, rfl, h1, h2⟩ := nB_rat n1
    obtain ⟨u, v, rfl, rfl, h3, h4⟩ := nB_rat n2
    rw [qv_rwq, qv_rwq]
    exact ecmp_ok V U x y u v w hV hU h1 h3 h
  · rw [if_neg h]
    exact ecmp_bad V U r i r' i' w hV hU h

end Go.Proofs.YtilhnjecnhpmlaaDoor
