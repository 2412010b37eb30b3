/- Merged texts: ExA, ExT, ExO. -/
import Derived.Test.YtkjfpaommbjgbaaGF
namespace Go.Proofs.Ytkjfpaommbjgbaa
open Go.RowKit

/-- the error of one argument, of two -/
def chkN1 (real : Bool) (r i : Rw) : Int := if nB r i = true then (if real = true ∧ 0 < i.a.length then 10 else 0) else 2
def chkN2 (real : Bool) (r i r' i' : Rw) : Int := if nB r i = true ∧ nB r' i' = true then (if real = true ∧ (0 < i.a.length ∨ 0 < i'.a.length) then 10 else 0) else 2


set_option maxHeartbeats 8000000 in
theorem check1x_any (real : Bool) (g : Nat) (s11 : Bool) (a11 b11 : List Nat) (s12 : Bool) (a12 b12 : List Nat) (A11 : Option Addr) (c11 : Nat) (D11 : Option Addr) (d11 : Nat) (A12 : Option Addr) (c12 : Nat) (D12 : Option Addr) (d12 : Nat) (w : World) (hg : SB w g [.bool s11, .slice A11 a11.length c11, .slice D11 b11.length d11, .bool s12, .slice A12 a12.length c12, .slice D12 b12.length d12]) (r11 : RW w w.heap.size A11 c11 a11) (r12 : RW w w.heap.size D11 d11 b11) (r13 : RW w w.heap.size A12 c12 a12) (r14 : RW w w.heap.size D12 d12 b12) :
    Calls Try.prog 22 #[.bool real, .slice (some ⟨g, 0, none⟩) 1 1] w fun e w' => e = .returned (.int .i64 (chkN1 real ⟨s11, a11, b11⟩ ⟨s12, a12, b12⟩)) ∧ Below w.heap.size w w' := by
  have h1 := fun w' B => esound_any (.agg #[.bool s11, .slice A11 a11.length c11, .slice D11 b11.length d11, .bool s12, .slice A12 a12.length c12, .slice D12 b12.length d12]) ⟨s11, a11, b11⟩ ⟨s12, a12, b12⟩ w' (vns r11 r12 r13 r14 B)
  obtain ⟨n1, hn1⟩ : ∃ z, Hid (nB ⟨s11, a11, b11⟩ ⟨s12, a12, b12⟩ = z) := ⟨_, rfl⟩
  simp only [hn1.out] at h1
  have hval : Hid (chkN1 real ⟨s11, a11, b11⟩ ⟨s12, a12, b12⟩ = if n1 = true then (if real = true ∧ 0 < a12.length then 10 else 0) else 2) := by
    show _ = _
    unfold chkN1
    rw [hn1.out]
  obtain ⟨ans, hans⟩ : ∃ z : Int, Hid (chkN1 real ⟨s11, a11, b11⟩ ⟨s12, a12, b12⟩ = z) := ⟨_, rfl⟩
  rw [hans.out]
  go_enter Try.func22, Try.ntmps22
  go_wp2_with fail
  go_loopg [11] 1 (fun gg iv wr => ∃ k : Nat, k ≤ 1 ∧ 1 - k = gg ∧ iv = .int .i64 (k : Int) ∧ (1 ≤ k → n1 = true) ∧ Below w.heap.size w wr)
  case atStart => exact ⟨0, by omega, rfl, rfl, by intro h; omega, Below.refl _ _⟩
  case round =>
    obtain ⟨k, hk, rfl, rfl, q1, Bl⟩ := hrel
    by_cases h0 : k < 1
    · obtain rfl : k = 0 := by omega
      · have G := hg.nx Bl
        have m0 := G.cell 0
        have m1 := G.cell 1
        have m2 := G.cell 2
        have m3 := G.cell 3
        have m4 := G.cell 4
        have m5 := G.cell 5
        have Bn := bal wr (.cells #[.bool s11, .slice A11 a11.length c11, .slice D11 b11.length d11, .bool s12, .slice A12 a12.length c12, .slice D12 b12.length d12] 26)
        cases n1 with
        | false =>
          go_wp2_with fail
          refine (h1 _ (bt Bl Bn)).mono ?_; rintro e w3 ⟨rfl, B3⟩
          go_wp2_with fail
          go_ret
          exact ⟨by rw [← hans.out, hval.out, if_neg (by simp)]; rfl, bt (bt Bl Bn) B3⟩
        | true =>
          go_wp2_with fail
          refine (h1 _ (bt Bl Bn)).mono ?_; rintro e w3 ⟨rfl, B3⟩
          go_wp2_with fail
          go_roundg 0
          case measure => omega
          case rel => exact ⟨1, by omega, rfl, rfl, fun _ => by trivial, bt (bt Bl Bn) B3⟩
    · obtain rfl : k = 1 := by omega
      have t1 := q1 (by omega)
      subst t1
      clear q1 h0
      have hval2 : Hid (ans = if real = true ∧ 0 < a12.length then 10 else 0) := by show _ = _; rw [← hans.out, hval.out, if_pos rfl]
      clear hval
      go_wp2_with fail
      go_loopg [21] 1 (fun gg iv ww => ∃ k : Nat, k ≤ 1 ∧ 1 - k = gg ∧ iv = .int .i64 (k : Int) ∧ (1 ≤ k → ¬ (real = true ∧ 0 < a12.length)) ∧ Below w.heap.size w ww)
      case atStart => exact ⟨0, by omega, rfl, rfl, by intro h; omega, Bl⟩
      case round =>
        obtain ⟨k, hk, rfl, rfl, q1, Bm⟩ := hrel
        by_cases h0 : k < 1
        · obtain rfl : k = 0 := by omega
          · have G := hg.nx Bm
            have m0 := G.cell 0
            have m1 := G.cell 1
            have m2 := G.cell 2
            have m3 := G.cell 3
            have m4 := G.cell 4
            have m5 := G.cell 5
            have Bn := bal wr (.cells #[.bool s11, .slice A11 a11.length c11, .slice D11 b11.length d11, .bool s12, .slice A12 a12.length c12, .slice D12 b12.length d12] 26)
            cases real with
            | false =>
              go_wp2_with fail
              go_roundg 0
              case measure => omega
              case rel => exact ⟨1, by omega, rfl, rfl, by intro _ h; exact absurd h.1 (by simp), bt Bm Bn⟩
            | true =>
              by_cases hl : 0 < a12.length
              · go_wp2_with fail
                go_ret
                exact ⟨by rw [hval2.out, if_pos ⟨by trivial, hl⟩]; rfl, bt Bm Bn⟩
              · go_wp2_with fail
                go_roundg 0
                case measure => omega
                case rel => exact ⟨1, by omega, rfl, rfl, fun _ h => hl h.2, bt Bm Bn⟩
        · obtain rfl : k = 1 := by omega
          have z1 := q1 (by omega)
          have hfin : Hid (ans = 0) := by
            show _ = _
            rw [hval2.out, if_neg]
            rintro ⟨x1, x2⟩
            exact z1 ⟨x1, x2⟩
          clear q1 z1 hval2 h0
          go_wp2_with fail
          go_ret
          exact ⟨by rw [hfin.out]; rfl, Bm⟩


set_option maxHeartbeats 8000000 in
theorem check2x_any (real : Bool) (g : Nat) (s11 : Bool) (a11 b11 : List Nat) (s12 : Bool) (a12 b12 : List Nat) (A11 : Option Addr) (c11 : Nat) (D11 : Option Addr) (d11 : Nat) (A12 : Option Addr) (c12 : Nat) (D12 : Option Addr) (d12 : Nat) (s21 : Bool) (a21 b21 : List Nat) (s22 : Bool) (a22 b22 : List Nat) (A21 : Option Addr) (c21 : Nat) (D21 : Option Addr) (d21 : Nat) (A22 : Option Addr) (c22 : Nat) (D22 : Option Addr) (d22 : Nat) (w : World) (hg : SB w g [.bool s11, .slice A11 a11.length c11, .slice D11 b11.length d11, .bool s12, .slice A12 a12.length c12, .slice D12 b12.length d12, .bool s21, .slice A21 a21.length c21, .slice D21 b21.length d21, .bool s22, .slice A22 a22.length c22, .slice D22 b22.length d22]) (r11 : RW w w.heap.size A11 c11 a11) (r12 : RW w w.heap.size D11 d11 b11) (r13 : RW w w.heap.size A12 c12 a12) (r14 : RW w w.heap.size D12 d12 b12) (r21 : RW w w.heap.size A21 c21 a21) (r22 : RW w w.heap.size D21 d21 b21) (r23 : RW w w.heap.size A22 c22 a22) (r24 : RW w w.heap.size D22 d22 b22) :
    Calls Try.prog 22 #[.bool real, .slice (some ⟨g, 0, none⟩) 2 2] w fun e w' => e = .returned (.int .i64 (chkN2 real ⟨s11, a11, b11⟩ ⟨s12, a12, b12⟩ ⟨s21, a21, b21⟩ ⟨s22, a22, b22⟩)) ∧ Below w.heap.size w w' := by
  have h1 := fun w' B => esound_any (.agg #[.bool s11, .slice A11 a11.length c11, .slice D11 b11.length d11, .bool s12, .slice A12 a12.length c12, .slice D12 b12.length d12]) ⟨s11, a11, b11⟩ ⟨s12, a12, b12⟩ w' (vns r11 r12 r13 r14 B)
  have h2 := fun w' B => esound_any (.agg #[.bool s21, .slice A21 a21.length c21, .slice D21 b21.length d21, .bool s22, .slice A22 a22.length c22, .slice D22 b22.length d22]) ⟨s21, a21, b21⟩ ⟨s22, a22, b22⟩ w' (vns r21 r22 r23 r24 B)
  obtain ⟨n1, hn1⟩ : ∃ z, Hid (nB ⟨s11, a11, b11⟩ ⟨s12, a12, b12⟩ = z) := ⟨_, rfl⟩
  simp only [hn1.out] at h1
  obtain ⟨n2, hn2⟩ : ∃ z, Hid (nB ⟨s21, a21, b21⟩ ⟨s22, a22, b22⟩ = z) := ⟨_, rfl⟩
  simp only [hn2.out] at h2
  have hval : Hid (chkN2 real ⟨s11, a11, b11⟩ ⟨s12, a12, b12⟩ ⟨s21, a21, b21⟩ ⟨s22, a22, b22⟩ = if n1 = true ∧ n2 = true then (if real = true ∧ (0 < a12.length ∨ 0 < a22.length) then 10 else 0) else 2) := by
    show _ = _
    unfold chkN2
    rw [hn1.out, hn2.out]
  obtain ⟨ans, hans⟩ : ∃ z : Int, Hid (chkN2 real ⟨s11, a11, b11⟩ ⟨s12, a12, b12⟩ ⟨s21, a21, b21⟩ ⟨s22, a22, b22⟩ = z) := ⟨_, rfl⟩
  rw [hans.out]
  go_enter Try.func22, Try.ntmps22
  go_wp2_with fail
  go_loopg [11] 2 (fun gg iv wr => ∃ k : Nat, k ≤ 2 ∧ 2 - k = gg ∧ iv = .int .i64 (k : Int) ∧ (1 ≤ k → n1 = true) ∧ (2 ≤ k → n2 = true) ∧ Below w.heap.size w wr)
  case atStart => exact ⟨0, by omega, rfl, rfl, by intro h; omega, by intro h; omega, Below.refl _ _⟩
  case round =>
    obtain ⟨k, hk, rfl, rfl, q1, q2, Bl⟩ := hrel
    by_cases h0 : k < 2
    · obtain rfl | rfl : k = 0 ∨ k = 1 := by omega
      · have G := hg.nx Bl
        have m0 := G.cell 0
        have m1 := G.cell 1
        have m2 := G.cell 2
        have m3 := G.cell 3
        have m4 := G.cell 4
        have m5 := G.cell 5
        have Bn := bal wr (.cells #[.bool s11, .slice A11 a11.length c11, .slice D11 b11.length d11, .bool s12, .slice A12 a12.length c12, .slice D12 b12.length d12] 26)
        cases n1 with
        | false =>
          go_wp2_with fail
          refine (h1 _ (bt Bl Bn)).mono ?_; rintro e w3 ⟨rfl, B3⟩
          go_wp2_with fail
          go_ret
          exact ⟨by rw [← hans.out, hval.out, if_neg (by simp)]; rfl, bt (bt Bl Bn) B3⟩
        | true =>
          go_wp2_with fail
          refine (h1 _ (bt Bl Bn)).mono ?_; rintro e w3 ⟨rfl, B3⟩
          go_wp2_with fail
          go_roundg 1
          case measure => omega
          case rel => exact ⟨1, by omega, rfl, rfl, fun _ => by trivial, by intro h; omega, bt (bt Bl Bn) B3⟩
      · have G := hg.nx Bl
        have m0 := G.cell 6
        have m1 := G.cell 7
        have m2 := G.cell 8
        have m3 := G.cell 9
        have m4 := G.cell 10
        have m5 := G.cell 11
        have Bn := bal wr (.cells #[.bool s21, .slice A21 a21.length c21, .slice D21 b21.length d21, .bool s22, .slice A22 a22.length c22, .slice D22 b22.length d22] 26)
        cases n2 with
        | false =>
          go_wp2_with fail
          refine (h2 _ (bt Bl Bn)).mono ?_; rintro e w3 ⟨rfl, B3⟩
          go_wp2_with fail
          go_ret
          exact ⟨by rw [← hans.out, hval.out, if_neg (by simp)]; rfl, bt (bt Bl Bn) B3⟩
        | true =>
          go_wp2_with fail
          refine (h2 _ (bt Bl Bn)).mono ?_; rintro e w3 ⟨rfl, B3⟩
          go_wp2_with fail
          go_roundg 0
          case measure => omega
          case rel => exact ⟨2, by omega, rfl, rfl, fun _ => q1 (by omega), fun _ => by trivial, bt (bt Bl Bn) B3⟩
    · obtain rfl : k = 2 := by omega
      have t1 := q1 (by omega)
      have t2 := q2 (by omega)
      subst t1 t2
      clear q1 q2 h0
      have hval2 : Hid (ans = if real = true ∧ (0 < a12.length ∨ 0 < a22.length) then 10 else 0) := by show _ = _; rw [← hans.out, hval.out, if_pos ⟨rfl, rfl⟩]
      clear hval
      go_wp2_with fail
      go_loopg [21] 2 (fun gg iv ww => ∃ k : Nat, k ≤ 2 ∧ 2 - k = gg ∧ iv = .int .i64 (k : Int) ∧ (1 ≤ k → ¬ (real = true ∧ 0 < a12.length)) ∧ (2 ≤ k → ¬ (real = true ∧ 0 < a22.length)) ∧ Below w.heap.size w ww)
      case atStart => exact ⟨0, by omega, rfl, rfl, by intro h; omega, by intro h; omega, Bl⟩
      case round =>
        obtain ⟨k, hk, rfl, rfl, q1, q2, Bm⟩ := hrel
        by_cases h0 : k < 2
        · obtain rfl | rfl : k = 0 ∨ k = 1 := by omega
          · have G := hg.nx Bm
            have m0 := G.cell 0
            have m1 := G.cell 1
            have m2 := G.cell 2
            have m3 := G.cell 3
            have m4 := G.cell 4
            have m5 := G.cell 5
            have Bn := bal wr (.cells #[.bool s11, .slice A11 a11.length c11, .slice D11 b11.length d11, .bool s12, .slice A12 a12.length c12, .slice D12 b12.length d12] 26)
            cases real with
            | false =>
              go_wp2_with fail
              go_roundg 1
              case measure => omega
              case rel => exact ⟨1, by omega, rfl, rfl, by intro _ h; exact absurd h.1 (by simp), by intro _ h; exact absurd h.1 (by simp), bt Bm Bn⟩
            | true =>
              by_cases hl : 0 < a12.length
              · go_wp2_with fail
                go_ret
                exact ⟨by rw [hval2.out, if_pos ⟨by trivial, .inl hl⟩]; rfl, bt Bm Bn⟩
              · go_wp2_with fail
                go_roundg 1
                case measure => omega
                case rel => exact ⟨1, by omega, rfl, rfl, fun _ h => hl h.2, by intro h; omega, bt Bm Bn⟩
          · have G := hg.nx Bm
            have m0 := G.cell 6
            have m1 := G.cell 7
            have m2 := G.cell 8
            have m3 := G.cell 9
            have m4 := G.cell 10
            have m5 := G.cell 11
            have Bn := bal wr (.cells #[.bool s21, .slice A21 a21.length c21, .slice D21 b21.length d21, .bool s22, .slice A22 a22.length c22, .slice D22 b22.length d22] 26)
            cases real with
            | false =>
              go_wp2_with fail
              go_roundg 0
              case measure => omega
              case rel => exact ⟨2, by omega, rfl, rfl, by intro _ h; exact absurd h.1 (by simp), by intro _ h; exact absurd h.1 (by simp), bt Bm Bn⟩
            | true =>
              by_cases hl : 0 < a22.length
              · go_wp2_with fail
                go_ret
                exact ⟨by rw [hval2.out, if_pos ⟨by trivial, .inr hl⟩]; rfl, bt Bm Bn⟩
              · go_wp2_with fail
                go_roundg 0
                case measure => omega
                case rel => exact ⟨2, by omega, rfl, rfl, fun _ => q1 (by omega), fun _ h => hl h.2, bt Bm Bn⟩
        · obtain rfl : k = 2 := by omega
          have z1 := q1 (by omega)
          have z2 := q2 (by omega)
          have hfin : Hid (ans = 0) := by
            show _ = _
            rw [hval2.out, if_neg]
            rintro ⟨x1, x2⟩
            rcases x2 with x2 | x2
            · exact z1 ⟨x1, x2⟩
            · exact z2 ⟨x1, x2⟩
          clear q1 q2 z1 z2 hval2 h0
          go_wp2_with fail
          go_ret
          exact ⟨by rw [hfin.out]; rfl, Bm⟩

end Go.Proofs.Ytkjfpaommbjgbaa
namespace Go.Proofs.Ytkjfpaommbjgbaa
open Go.RowKit

theorem S3.put6 {w w1 : World} {b : Nat} {l1 l2 : List Value} (h : S3 w b l1 l2 6 w1) (x y z x' y' z' : Value) : S3 w b l1 l2 6 (Go.Proofs.Ytkjfpaommbjgbaa.wr6 w1 (b + 2) x y z x' y' z') :=
  ⟨h.1.wr6 (by omega) x y z x' y' z', h.2.1.wr6 (by omega) x y z x' y' z', (h.2.2.1.put6 x y z x' y' z').rc, wr6_below h.2.2.2 (by omega) x y z x' y' z'⟩
/-- a number in memory: two rationals -/
def RN (w : World) (B : Nat) (v : Value) (x y : Rat) : Prop := VN w B v (rwq x) (rwq y)


set_option maxRecDepth 100000 in
set_option maxHeartbeats 16000000 in
theorem times_rat (V U : Value) (x y u v : Rat) (w : World) (hV : RN w w.heap.size V x y) (hU : RN w w.heap.size U u v)
    (b11 : qw x + qw u ≤ 6900) (b22 : qw y + qw v ≤ 6900) (b12 : qw x + qw v ≤ 6900) (b21 : qw y + qw u ≤ 6900) :
    Calls Try.prog 42 #[V, U] w (RetN w (rwq (x * u + -(y * v))) (rwq (x * v + y * u))) := by
  obtain ⟨A1, c1, D1, d1, A2, c2, D2, d2, rfl, r1, r2, r3, r4⟩ := hV
  obtain ⟨E1, e1, F1, f1, E2, e2, F2, f2, rfl, r5, r6, r7, r8⟩ := hU
  simp only [rwq] at r1 r2 r3 r4 r5 r6 r7 r8 ⊢
  have hx : RQ w w.heap.size (.agg #[.bool (qn x), .slice A1 (digs (qt x)).length c1, .slice D1 (digs (qd x)).length d1]) x := ⟨A1, c1, D1, d1, rfl, r1, r2⟩
  have hy : RQ w w.heap.size (.agg #[.bool (qn y), .slice A2 (digs (qt y)).length c2, .slice D2 (digs (qd y)).length d2]) y := ⟨A2, c2, D2, d2, rfl, r3, r4⟩
  have hu : RQ w w.heap.size (.agg #[.bool (qn u), .slice E1 (digs (qt u)).length e1, .slice F1 (digs (qd u)).length f1]) u := ⟨E1, e1, F1, f1, rfl, r5, r6⟩
  have hv : RQ w w.heap.size (.agg #[.bool (qn v), .slice E2 (digs (qt v)).length e2, .slice F2 (digs (qd v)).length f2]) v := ⟨E2, e2, F2, f2, rfl, r7, r8⟩
  have k0 := S3.new w [.bool (qn x), .slice A1 (digs (qt x)).length c1, .slice D1 (digs (qd x)).length d1, .bool (qn y), .slice A2 (digs (qt y)).length c2, .slice D2 (digs (qd y)).length d2] [.bool (qn u), .slice E1 (digs (qt u)).length e1, .slice F1 (digs (qd u)).length f1, .bool (qn v), .slice E2 (digs (qt v)).length e2, .slice F2 (digs (qd v)).length f2] [.bool false, .slice none 0 0, .slice none 0 0, .bool false, .slice none 0 0, .slice none 0 0] 26 26 26 6
  have m1 := qw_mul x u
  have m2 := qw_mul y v
  have m3 := qw_mul x v
  have m4 := qw_mul y u
  have hb1 : qw (x * u) + qw (-(y * v)) ≤ 14000 := by rw [qw_neg]; omega
  have hb2 : qw (x * v) + qw (y * u) ≤ 14000 := by omega
  go_enter Try.func42, Try.ntmps42
  go_wp2_with fail
  have k0d := k0.dr
  have k0s := And.intro (k0d.1.cell 0) (And.intro (k0d.1.cell 1) (And.intro (k0d.1.cell 2) (And.intro (k0d.1.cell 3) (And.intro (k0d.1.cell 4) (And.intro (k0d.1.cell 5) (And.intro (k0d.2.1.cell 0) (And.intro (k0d.2.1.cell 1) (And.intro (k0d.2.1.cell 2) (And.intro (k0d.2.1.cell 3) (And.intro (k0d.2.1.cell 4) (And.intro (k0d.2.1.cell 5) (And.intro (k0d.2.2.1.cell 0) (And.intro (k0d.2.2.1.frozen 0) (And.intro (k0d.2.2.1.cell 1) (And.intro (k0d.2.2.1.frozen 1) (And.intro (k0d.2.2.1.cell 2) (And.intro (k0d.2.2.1.frozen 2) (And.intro (k0d.2.2.1.cell 3) (And.intro (k0d.2.2.1.frozen 3) (And.intro (k0d.2.2.1.cell 4) (And.intro (k0d.2.2.1.frozen 4) (And.intro (k0d.2.2.1.cell 5) (And.intro (k0d.2.2.1.frozen 5) (k0d))))))))))))))))))))))))
  go_region_held3 (fun w' => w'.cell? ⟨w.heap.size, 0, none⟩ = some (.bool (qn x)) ∧ w'.cell? ⟨w.heap.size, 1, none⟩ = some (.slice A1 (digs (qt x)).length c1) ∧ w'.cell? ⟨w.heap.size, 2, none⟩ = some (.slice D1 (digs (qd x)).length d1) ∧ w'.cell? ⟨w.heap.size, 3, none⟩ = some (.bool (qn y)) ∧ w'.cell? ⟨w.heap.size, 4, none⟩ = some (.slice A2 (digs (qt y)).length c2) ∧ w'.cell? ⟨w.heap.size, 5, none⟩ = some (.slice D2 (digs (qd y)).length d2) ∧ w'.cell? ⟨w.heap.size + 1, 0, none⟩ = some (.bool (qn u)) ∧ w'.cell? ⟨w.heap.size + 1, 1, none⟩ = some (.slice E1 (digs (qt u)).length e1) ∧ w'.cell? ⟨w.heap.size + 1, 2, none⟩ = some (.slice F1 (digs (qd u)).length f1) ∧ w'.cell? ⟨w.heap.size + 1, 3, none⟩ = some (.bool (qn v)) ∧ w'.cell? ⟨w.heap.size + 1, 4, none⟩ = some (.slice E2 (digs (qt v)).length e2) ∧ w'.cell? ⟨w.heap.size + 1, 5, none⟩ = some (.slice F2 (digs (qd v)).length f2) ∧ w'.cell? ⟨w.heap.size + 2, 0, none⟩ = some (cv w' (w.heap.size + 2) 0) ∧ w'.frozen? ⟨w.heap.size + 2, 0, none⟩ = false ∧ w'.cell? ⟨w.heap.size + 2, 1, none⟩ = some (cv w' (w.heap.size + 2) 1) ∧ w'.frozen? ⟨w.heap.size + 2, 1, none⟩ = false ∧ w'.cell? ⟨w.heap.size + 2, 2, none⟩ = some (cv w' (w.heap.size + 2) 2) ∧ w'.frozen? ⟨w.heap.size + 2, 2, none⟩ = false ∧ w'.cell? ⟨w.heap.size + 2, 3, none⟩ = some (cv w' (w.heap.size + 2) 3) ∧ w'.frozen? ⟨w.heap.size + 2, 3, none⟩ = false ∧ w'.cell? ⟨w.heap.size + 2, 4, none⟩ = some (cv w' (w.heap.size + 2) 4) ∧ w'.frozen? ⟨w.heap.size + 2, 4, none⟩ = false ∧ w'.cell? ⟨w.heap.size + 2, 5, none⟩ = some (cv w' (w.heap.size + 2) 5) ∧ w'.frozen? ⟨w.heap.size + 2, 5, none⟩ = false ∧ S3 w w.heap.size [.bool (qn x), .slice A1 (digs (qt x)).length c1, .slice D1 (digs (qd x)).length d1, .bool (qn y), .slice A2 (digs (qt y)).length c2, .slice D2 (digs (qd y)).length d2] [.bool (qn u), .slice E1 (digs (qt u)).length e1, .slice F1 (digs (qd u)).length f1, .bool (qn v), .slice E2 (digs (qt v)).length e2, .slice F2 (digs (qd v)).length f2] 6 w')
    (first
      | with_reducible exact k0s
      | (have s1 := (by assumption : _ ∧ _ ∧ _ ∧ _ ∧ _ ∧ _ ∧ _ ∧ _ ∧ _ ∧ _ ∧ _ ∧ _ ∧ _ ∧ _ ∧ _ ∧ _ ∧ _ ∧ _ ∧ _ ∧ _ ∧ _ ∧ _ ∧ _ ∧ _ ∧ S3 w w.heap.size [.bool (qn x), .slice A1 (digs (qt x)).length c1, .slice D1 (digs (qd x)).length d1, .bool (qn y), .slice A2 (digs (qt y)).length c2, .slice D2 (digs (qd y)).length d2] [.bool (qn u), .slice E1 (digs (qt u)).length e1, .slice F1 (digs (qd u)).length f1, .bool (qn v), .slice E2 (digs (qt v)).length e2, .slice F2 (digs (qd v)).length f2] 6 _).2.2.2.2.2.2.2.2.2.2.2.2.2.2.2.2.2.2.2.2.2.2.2.2.nx BX; have q0_ := s1.1.cell 0; have q1_ := s1.1.cell 1; have q2_ := s1.1.cell 2; have q3_ := s1.1.cell 3; have q4_ := s1.1.cell 4; have q5_ := s1.1.cell 5; have q6_ := s1.2.1.cell 0; have q7_ := s1.2.1.cell 1; have q8_ := s1.2.1.cell 2; have q9_ := s1.2.1.cell 3; have q10_ := s1.2.1.cell 4; have q11_ := s1.2.1.cell 5; have q12_ := s1.2.2.1.cell 0; have q13_ := s1.2.2.1.frozen 0; have q14_ := s1.2.2.1.cell 1; have q15_ := s1.2.2.1.frozen 1; have q16_ := s1.2.2.1.cell 2; have q17_ := s1.2.2.1.frozen 2; have q18_ := s1.2.2.1.cell 3; have q19_ := s1.2.2.1.frozen 3; have q20_ := s1.2.2.1.cell 4; have q21_ := s1.2.2.1.frozen 4; have q22_ := s1.2.2.1.cell 5; have q23_ := s1.2.2.1.frozen 5; with_reducible exact ⟨q0_, q1_, q2_, q3_, q4_, q5_, q6_, q7_, q8_, q9_, q10_, q11_, q12_, q13_, q14_, q15_, q16_, q17_, q18_, q19_, q20_, q21_, q22_, q23_, s1⟩)
      | (have s1 := (by assumption : _ ∧ _ ∧ _ ∧ _ ∧ _ ∧ _ ∧ _ ∧ _ ∧ _ ∧ _ ∧ _ ∧ _ ∧ _ ∧ _ ∧ _ ∧ _ ∧ _ ∧ _ ∧ _ ∧ _ ∧ _ ∧ _ ∧ _ ∧ _ ∧ S3 w w.heap.size [.bool (qn x), .slice A1 (digs (qt x)).length c1, .slice D1 (digs (qd x)).length d1, .bool (qn y), .slice A2 (digs (qt y)).length c2, .slice D2 (digs (qd y)).length d2] [.bool (qn u), .slice E1 (digs (qt u)).length e1, .slice F1 (digs (qd u)).length f1, .bool (qn v), .slice E2 (digs (qt v)).length e2, .slice F2 (digs (qd v)).length f2] 6 _).2.2.2.2.2.2.2.2.2.2.2.2.2.2.2.2.2.2.2.2.2.2.2.2.put6 (.bool (qn (x * u + -(y * v)))) (.slice A17 (digs (qt (x * u + -(y * v)))).length c17) (.slice D17 (digs (qd (x * u + -(y * v)))).length d17) (.bool (qn (x * v + y * u))) (.slice A20 (digs (qt (x * v + y * u))).length c20) (.slice D20 (digs (qd (x * v + y * u))).length d20); have q0_ := s1.1.cell 0; have q1_ := s1.1.cell 1; have q2_ := s1.1.cell 2; have q3_ := s1.1.cell 3; have q4_ := s1.1.cell 4; have q5_ := s1.1.cell 5; have q6_ := s1.2.1.cell 0; have q7_ := s1.2.1.cell 1; have q8_ := s1.2.1.cell 2; have q9_ := s1.2.1.cell 3; have q10_ := s1.2.1.cell 4; have q11_ := s1.2.1.cell 5; have q12_ := s1.2.2.1.cell 0; have q13_ := s1.2.2.1.frozen 0; have q14_ := s1.2.2.1.cell 1; have q15_ := s1.2.2.1.frozen 1; have q16_ := s1.2.2.1.cell 2; have q17_ := s1.2.2.1.frozen 2; have q18_ := s1.2.2.1.cell 3; have q19_ := s1.2.2.1.frozen 3; have q20_ := s1.2.2.1.cell 4; have q21_ := s1.2.2.1.frozen 4; have q22_ := s1.2.2.1.cell 5; have q23_ := s1.2.2.1.frozen 5; with_reducible exact ⟨q0_, q1_, q2_, q3_, q4_, q5_, q6_, q7_, q8_, q9_, q10_, q11_, q12_, q13_, q14_, q15_, q16_, q17_, q18_, q19_, q20_, q21_, q22_, q23_, s1⟩))
    (first
      | (go_at_call_of 60 (Value.agg #[.bool (qn x), .slice A1 (digs (qt x)).length c1, .slice D1 (digs (qd x)).length d1]); go_at_call_of 60 (Value.agg #[.bool (qn u), .slice E1 (digs (qt u)).length e1, .slice F1 (digs (qd u)).length f1]); have hh := (by assumption : _ ∧ _ ∧ _ ∧ _ ∧ _ ∧ _ ∧ _ ∧ _ ∧ _ ∧ _ ∧ _ ∧ _ ∧ _ ∧ _ ∧ _ ∧ _ ∧ _ ∧ _ ∧ _ ∧ _ ∧ _ ∧ _ ∧ _ ∧ _ ∧ S3 w w.heap.size [.bool (qn x), .slice A1 (digs (qt x)).length c1, .slice D1 (digs (qd x)).length d1, .bool (qn y), .slice A2 (digs (qt y)).length c2, .slice D2 (digs (qd y)).length d2] [.bool (qn u), .slice E1 (digs (qt u)).length e1, .slice F1 (digs (qd u)).length f1, .bool (qn v), .slice E2 (digs (qt v)).length e2, .slice F2 (digs (qd v)).length f2] 6 _).2.2.2.2.2.2.2.2.2.2.2.2.2.2.2.2.2.2.2.2.2.2.2.2; refine (product_any _ _ x u _ (hx.st hh.2.2.2) (hu.st hh.2.2.2) (by omega)).mono ?_; rintro e w14 ⟨A14, c14, D14, d14, rfl, O14, P14, BX⟩; have B14 := BX)
      | (go_at_call_of 60 (Value.agg #[.bool (qn y), .slice A2 (digs (qt y)).length c2, .slice D2 (digs (qd y)).length d2]); go_at_call_of 60 (Value.agg #[.bool (qn v), .slice E2 (digs (qt v)).length e2, .slice F2 (digs (qd v)).length f2]); have hh := (by assumption : _ ∧ _ ∧ _ ∧ _ ∧ _ ∧ _ ∧ _ ∧ _ ∧ _ ∧ _ ∧ _ ∧ _ ∧ _ ∧ _ ∧ _ ∧ _ ∧ _ ∧ _ ∧ _ ∧ _ ∧ _ ∧ _ ∧ _ ∧ _ ∧ S3 w w.heap.size [.bool (qn x), .slice A1 (digs (qt x)).length c1, .slice D1 (digs (qd x)).length d1, .bool (qn y), .slice A2 (digs (qt y)).length c2, .slice D2 (digs (qd y)).length d2] [.bool (qn u), .slice E1 (digs (qt u)).length e1, .slice F1 (digs (qd u)).length f1, .bool (qn v), .slice E2 (digs (qt v)).length e2, .slice F2 (digs (qd v)).length f2] 6 _).2.2.2.2.2.2.2.2.2.2.2.2.2.2.2.2.2.2.2.2.2.2.2.2; refine (product_any _ _ y v _ (hy.st hh.2.2.2) (hv.st hh.2.2.2) (by omega)).mono ?_; rintro e w15 ⟨A15, c15, D15, d15, rfl, O15, P15, BX⟩; have B15 := BX)
      | (go_at_call 61; have hh := (by assumption : _ ∧ _ ∧ _ ∧ _ ∧ _ ∧ _ ∧ _ ∧ _ ∧ _ ∧ _ ∧ _ ∧ _ ∧ _ ∧ _ ∧ _ ∧ _ ∧ _ ∧ _ ∧ _ ∧ _ ∧ _ ∧ _ ∧ _ ∧ _ ∧ S3 w w.heap.size [.bool (qn x), .slice A1 (digs (qt x)).length c1, .slice D1 (digs (qd x)).length d1, .bool (qn y), .slice A2 (digs (qt y)).length c2, .slice D2 (digs (qd y)).length d2] [.bool (qn u), .slice E1 (digs (qt u)).length e1, .slice F1 (digs (qd u)).length f1, .bool (qn v), .slice E2 (digs (qt v)).length e2, .slice F2 (digs (qd v)).length f2] 6 _).2.2.2.2.2.2.2.2.2.2.2.2.2.2.2.2.2.2.2.2.2.2.2.2; refine (minus_any (y * v) A15 D15 c15 d15 _).mono ?_; rintro e w16 ⟨rfl, BX⟩; have B16 := BX)
      | (go_at_call_of 59 (Value.agg #[.bool (qn (-(y * v))), .slice A15 (digs (qt (-(y * v)))).length c15, .slice D15 (digs (qd (-(y * v)))).length d15]); have hh := (by assumption : _ ∧ _ ∧ _ ∧ _ ∧ _ ∧ _ ∧ _ ∧ _ ∧ _ ∧ _ ∧ _ ∧ _ ∧ _ ∧ _ ∧ _ ∧ _ ∧ _ ∧ _ ∧ _ ∧ _ ∧ _ ∧ _ ∧ _ ∧ _ ∧ S3 w w.heap.size [.bool (qn x), .slice A1 (digs (qt x)).length c1, .slice D1 (digs (qd x)).length d1, .bool (qn y), .slice A2 (digs (qt y)).length c2, .slice D2 (digs (qd y)).length d2] [.bool (qn u), .slice E1 (digs (qt u)).length e1, .slice F1 (digs (qd u)).length f1, .bool (qn v), .slice E2 (digs (qt v)).length e2, .slice F2 (digs (qd v)).length f2] 6 _).2.2.2.2.2.2.2.2.2.2.2.2.2.2.2.2.2.2.2.2.2.2.2.2; refine (sum_any _ _ (x * u) (-(y * v)) _ ⟨A14, c14, D14, d14, rfl, st (st O14.rw B15) B16, st (st P14.rw B15) B16⟩ ⟨A15, c15, D15, d15, rfl, by rw [q_neg_t]; exact st O15.rw B16, by rw [q_neg_d]; exact st P15.rw B16⟩ hb1).mono ?_; rintro e w17 ⟨A17, c17, D17, d17, rfl, O17, P17, BX⟩; have B17 := BX)
      | (go_at_call_of 60 (Value.agg #[.bool (qn x), .slice A1 (digs (qt x)).length c1, .slice D1 (digs (qd x)).length d1]); go_at_call_of 60 (Value.agg #[.bool (qn v), .slice E2 (digs (qt v)).length e2, .slice F2 (digs (qd v)).length f2]); have hh := (by assumption : _ ∧ _ ∧ _ ∧ _ ∧ _ ∧ _ ∧ _ ∧ _ ∧ _ ∧ _ ∧ _ ∧ _ ∧ _ ∧ _ ∧ _ ∧ _ ∧ _ ∧ _ ∧ _ ∧ _ ∧ _ ∧ _ ∧ _ ∧ _ ∧ S3 w w.heap.size [.bool (qn x), .slice A1 (digs (qt x)).length c1, .slice D1 (digs (qd x)).length d1, .bool (qn y), .slice A2 (digs (qt y)).length c2, .slice D2 (digs (qd y)).length d2] [.bool (qn u), .slice E1 (digs (qt u)).length e1, .slice F1 (digs (qd u)).length f1, .bool (qn v), .slice E2 (digs (qt v)).length e2, .slice F2 (digs (qd v)).length f2] 6 _).2.2.2.2.2.2.2.2.2.2.2.2.2.2.2.2.2.2.2.2.2.2.2.2; refine (product_any _ _ x v _ (hx.st hh.2.2.2) (hv.st hh.2.2.2) (by omega)).mono ?_; rintro e w18 ⟨A18, c18, D18, d18, rfl, O18, P18, BX⟩; have B18 := BX)
      | (go_at_call_of 60 (Value.agg #[.bool (qn y), .slice A2 (digs (qt y)).length c2, .slice D2 (digs (qd y)).length d2]); go_at_call_of 60 (Value.agg #[.bool (qn u), .slice E1 (digs (qt u)).length e1, .slice F1 (digs (qd u)).length f1]); have hh := (by assumption : _ ∧ _ ∧ _ ∧ _ ∧ _ ∧ _ ∧ _ ∧ _ ∧ _ ∧ _ ∧ _ ∧ _ ∧ _ ∧ _ ∧ _ ∧ _ ∧ _ ∧ _ ∧ _ ∧ _ ∧ _ ∧ _ ∧ _ ∧ _ ∧ S3 w w.heap.size [.bool (qn x), .slice A1 (digs (qt x)).length c1, .slice D1 (digs (qd x)).length d1, .bool (qn y), .slice A2 (digs (qt y)).length c2, .slice D2 (digs (qd y)).length d2] [.bool (qn u), .slice E1 (digs (qt u)).length e1, .slice F1 (digs (qd u)).length f1, .bool (qn v), .slice E2 (digs (qt v)).length e2, .slice F2 (digs (qd v)).length f2] 6 _).2.2.2.2.2.2.2.2.2.2.2.2.2.2.2.2.2.2.2.2.2.2.2.2; refine (product_any _ _ y u _ (hy.st hh.2.2.2) (hu.st hh.2.2.2) (by omega)).mono ?_; rintro e w19 ⟨A19, c19, D19, d19, rfl, O19, P19, BX⟩; have B19 := BX)
      | (go_at_call 59; have hh := (by assumption : _ ∧ _ ∧ _ ∧ _ ∧ _ ∧ _ ∧ _ ∧ _ ∧ _ ∧ _ ∧ _ ∧ _ ∧ _ ∧ _ ∧ _ ∧ _ ∧ _ ∧ _ ∧ _ ∧ _ ∧ _ ∧ _ ∧ _ ∧ _ ∧ S3 w w.heap.size [.bool (qn x), .slice A1 (digs (qt x)).length c1, .slice D1 (digs (qd x)).length d1, .bool (qn y), .slice A2 (digs (qt y)).length c2, .slice D2 (digs (qd y)).length d2] [.bool (qn u), .slice E1 (digs (qt u)).length e1, .slice F1 (digs (qd u)).length f1, .bool (qn v), .slice E2 (digs (qt v)).length e2, .slice F2 (digs (qd v)).length f2] 6 _).2.2.2.2.2.2.2.2.2.2.2.2.2.2.2.2.2.2.2.2.2.2.2.2; refine (sum_any _ _ (x * v) (y * u) _ ⟨A18, c18, D18, d18, rfl, st O18.rw B19, st P18.rw B19⟩ ⟨A19, c19, D19, d19, rfl, O19.rw, P19.rw⟩ hb2).mono ?_; rintro e w20 ⟨A20, c20, D20, d20, rfl, O20, P20, BX⟩; have B20 := BX; have kk := hh.nx BX; have sz := hh.2.2.1.2))
  have s6 := kk.2.2.1.put6 (.bool (qn (x * u + -(y * v)))) (.slice A17 (digs (qt (x * u + -(y * v)))).length c17) (.slice D17 (digs (qd (x * u + -(y * v)))).length d17) (.bool (qn (x * v + y * u))) (.slice A20 (digs (qt (x * v + y * u))).length c20) (.slice D20 (digs (qd (x * v + y * u))).length d20)
  have B6 := wr6_below (b := w.heap.size + 2) kk.2.2.2 (by omega) (.bool (qn (x * u + -(y * v)))) (.slice A17 (digs (qt (x * u + -(y * v)))).length c17) (.slice D17 (digs (qd (x * u + -(y * v)))).length d17) (.bool (qn (x * v + y * u))) (.slice A20 (digs (qt (x * v + y * u))).length c20) (.slice D20 (digs (qd (x * v + y * u))).length d20)
  have hz0 := k0d.2.2.1.2
  have hz14 := B14.size
  have hz15 := B15.size
  have hz16 := B16.size
  have hz17 := B17.size
  have hz18 := B18.size
  have hz1 : w.heap.size + 2 < w16.heap.size := by omega
  have hz2 : w.heap.size + 2 < w19.heap.size := sz
  have BE := bt (bt B18 B19) B20
  have Oa := (O17.below BE (Nat.le_refl _)).put6 (b := w.heap.size + 2) hz1 (.bool (qn (x * u + -(y * v)))) (.slice A17 (digs (qt (x * u + -(y * v)))).length c17) (.slice D17 (digs (qd (x * u + -(y * v)))).length d17) (.bool (qn (x * v + y * u))) (.slice A20 (digs (qt (x * v + y * u))).length c20) (.slice D20 (digs (qd (x * v + y * u))).length d20)
  have Ob := (P17.below BE (Nat.le_refl _)).put6 (b := w.heap.size + 2) hz1 (.bool (qn (x * u + -(y * v)))) (.slice A17 (digs (qt (x * u + -(y * v)))).length c17) (.slice D17 (digs (qd (x * u + -(y * v)))).length d17) (.bool (qn (x * v + y * u))) (.slice A20 (digs (qt (x * v + y * u))).length c20) (.slice D20 (digs (qd (x * v + y * u))).length d20)
  have Oc := O20.put6 (b := w.heap.size + 2) hz2 (.bool (qn (x * u + -(y * v)))) (.slice A17 (digs (qt (x * u + -(y * v)))).length c17) (.slice D17 (digs (qd (x * u + -(y * v)))).length d17) (.bool (qn (x * v + y * u))) (.slice A20 (digs (qt (x * v + y * u))).length c20) (.slice D20 (digs (qd (x * v + y * u))).length d20)
  have Od := P20.put6 (b := w.heap.size + 2) hz2 (.bool (qn (x * u + -(y * v)))) (.slice A17 (digs (qt (x * u + -(y * v)))).length c17) (.slice D17 (digs (qd (x * u + -(y * v)))).length d17) (.bool (qn (x * v + y * u))) (.slice A20 (digs (qt (x * v + y * u))).length c20) (.slice D20 (digs (qd (x * v + y * u))).length d20)
  have r0' := s6.cell 0
  have r1' := s6.cell 1
  have r2' := s6.cell 2
  have r3' := s6.cell 3
  have r4' := s6.cell 4
  have r5' := s6.cell 5
  unfold wr6 wr3 at s6 B6 Oa Ob Oc Od r0' r1' r2' r3' r4' r5'
  clear hz0 hz14 hz15 hz16 hz17 hz18
  go_wp2_with fail
  refine bodyPost_ret (v := .agg #[.bool (qn (x * u + -(y * v))), .slice A17 (digs (qt (x * u + -(y * v)))).length c17, .slice D17 (digs (qd (x * u + -(y * v)))).length d17, .bool (qn (x * v + y * u)), .slice A20 (digs (qt (x * v + y * u))).length c20, .slice D20 (digs (qd (x * v + y * u))).length d20]) (by simp [results, r0', r1', r2', r3', r4', r5', go_sem]) rfl ?_
  have hle1 : w.heap.size ≤ w16.heap.size := by omega
  have hle2 : w.heap.size ≤ w19.heap.size := by omega
  exact ⟨A17, c17, D17, d17, A20, c20, D20, d20, rfl, Oa.base_le hle1, Ob.base_le hle1, Oc.base_le hle2, Od.base_le hle2, B6⟩

end Go.Proofs.Ytkjfpaommbjgbaa
namespace Go.Proofs.Ytkjfpaommbjgbaa
open Go.RowKit

theorem nB_qq {p q : Rat} (h1 : qw p ≤ 512) (h2 : qw q ≤ 512) : nB ⟨qn p, digs (qt p), digs (qd p)⟩ ⟨qn q, digs (qt q), digs (qd q)⟩ = true := by
  unfold nB
  dsimp only
  rw [rsB_of p h1, rsB_of q h2]; rfl


end Go.Proofs.Ytkjfpaommbjgbaa
