/- Merged texts: BiD, BiF, BiG, BiH. -/
import Derived.Test.YtnlgoedklmjhlaaGF
import Derived.Test.YtnlgoedklmjhlaaGH
import Derived.Deep.LoopGhost
import Derived.Test.YtnlgoedklmjhlaaGI
import Derived.Test.YtnlgoedklmjhlaaGG
import Derived.StillTailTactics
namespace Go.Proofs.Ytnlgoedklmjhlaa
open Go.RowKit

/-- the error of one argument, of two: all sound, then all whole -/
def bchkN1 (r i : Rw) : Int := if nB r i = true then (if wB r i = true then 0 else 10) else 2
def bchkN2 (r i r' i' : Rw) : Int := if nB r i = true ∧ nB r' i' = true then (if wB r i = true ∧ wB r' i' = true then 0 else 10) else 2


set_option maxHeartbeats 8000000 in
theorem bcheck1_any (g : Nat) (s11 : Bool) (a11 b11 : List Nat) (s12 : Bool) (a12 b12 : List Nat) (A11 : Option Addr) (c11 : Nat) (D11 : Option Addr) (d11 : Nat) (A12 : Option Addr) (c12 : Nat) (D12 : Option Addr) (d12 : Nat) (w : World) (hg : SB w g [.bool s11, .slice A11 a11.length c11, .slice D11 b11.length d11, .bool s12, .slice A12 a12.length c12, .slice D12 b12.length d12]) (r11 : RW w w.heap.size A11 c11 a11) (r12 : RW w w.heap.size D11 d11 b11) (r13 : RW w w.heap.size A12 c12 a12) (r14 : RW w w.heap.size D12 d12 b12) :
    Calls Try.prog 42 #[.slice (some ⟨g, 0, none⟩) 1 1] w fun e w' => e = .returned (.int .i64 (bchkN1 ⟨s11, a11, b11⟩ ⟨s12, a12, b12⟩)) ∧ Below w.heap.size w w' := by
  have h1 := fun w' B => esound_any (.agg #[.bool s11, .slice A11 a11.length c11, .slice D11 b11.length d11, .bool s12, .slice A12 a12.length c12, .slice D12 b12.length d12]) ⟨s11, a11, b11⟩ ⟨s12, a12, b12⟩ w' (vns r11 r12 r13 r14 B)
  have f1 := fun w' B => whole1_any (.agg #[.bool s11, .slice A11 a11.length c11, .slice D11 b11.length d11, .bool s12, .slice A12 a12.length c12, .slice D12 b12.length d12]) ⟨s11, a11, b11⟩ ⟨s12, a12, b12⟩ w' (vns r11 r12 r13 r14 B)
  obtain ⟨n1, hn1⟩ : ∃ z, Hid (nB ⟨s11, a11, b11⟩ ⟨s12, a12, b12⟩ = z) := ⟨_, rfl⟩
  simp only [hn1.out] at h1
  obtain ⟨y1, hy1⟩ : ∃ z, Hid (wB ⟨s11, a11, b11⟩ ⟨s12, a12, b12⟩ = z) := ⟨_, rfl⟩
  simp only [hy1.out] at f1
  have hval : Hid (bchkN1 ⟨s11, a11, b11⟩ ⟨s12, a12, b12⟩ = if n1 = true then (if y1 = true then 0 else 10) else 2) := by
    show _ = _
    unfold bchkN1
    rw [hn1.out, hy1.out]
  obtain ⟨ans, hans⟩ : ∃ z : Int, Hid (bchkN1 ⟨s11, a11, b11⟩ ⟨s12, a12, b12⟩ = z) := ⟨_, rfl⟩
  rw [hans.out]
  go_enter Try.func42, Try.ntmps42
  go_wp2_with fail
  go_loopg [9] 1 (fun gg iv wr => ∃ k : Nat, k ≤ 1 ∧ 1 - k = gg ∧ iv = .int .i64 (k : Int) ∧ (1 ≤ k → n1 = true) ∧ Below w.heap.size w wr)
  case atStart => exact ⟨0, by omega, rfl, rfl, by intro h; omega, Below.refl _ _⟩
  case round =>
    obtain ⟨k, hk, rfl, rfl, q1, Bl⟩ := hrel
    by_cases h0 : k < 1
    · obtain rfl : k = 0 := by omega
      · have G := hg.nx Bl
        have m0 := G.cell 0
        have m1 := G.cell 1
        have m2 := G.cell 2
        have m3 := G.cell 3
        have m4 := G.cell 4
        have m5 := G.cell 5
        have Bn := bal wr (.cells #[.bool s11, .slice A11 a11.length c11, .slice D11 b11.length d11, .bool s12, .slice A12 a12.length c12, .slice D12 b12.length d12] 26)
        cases n1 with
        | false =>
          go_wp2_with fail
          refine (h1 _ (bt Bl Bn)).mono ?_; rintro e w3 ⟨rfl, B3⟩
          go_wp2_with fail
          go_ret
          exact ⟨by rw [← hans.out, hval.out, if_neg (by simp)]; rfl, bt (bt Bl Bn) B3⟩
        | true =>
          go_wp2_with fail
          refine (h1 _ (bt Bl Bn)).mono ?_; rintro e w3 ⟨rfl, B3⟩
          go_wp2_with fail
          go_roundg 0
          case measure => omega
          case rel => exact ⟨1, by omega, rfl, rfl, fun _ => by trivial, bt (bt Bl Bn) B3⟩
    · obtain rfl : k = 1 := by omega
      have t1 := q1 (by omega)
      subst t1
      clear q1 h0
      have hval2 : Hid (ans = if y1 = true then 0 else 10) := by show _ = _; rw [← hans.out, hval.out, if_pos rfl]
      clear hval
      go_wp2_with fail
      go_loopg [19] 1 (fun gg iv ww => ∃ k : Nat, k ≤ 1 ∧ 1 - k = gg ∧ iv = .int .i64 (k : Int) ∧ (1 ≤ k → y1 = true) ∧ Below w.heap.size w ww)
      case atStart => exact ⟨0, by omega, rfl, rfl, by intro h; omega, Bl⟩
      case round =>
        obtain ⟨k, hk, rfl, rfl, q1, Bm⟩ := hrel
        by_cases h0 : k < 1
        · obtain rfl : k = 0 := by omega
          · have G := hg.nx Bm
            have m0 := G.cell 0
            have m1 := G.cell 1
            have m2 := G.cell 2
            have m3 := G.cell 3
            have m4 := G.cell 4
            have m5 := G.cell 5
            have Bn := bal wr (.cells #[.bool s11, .slice A11 a11.length c11, .slice D11 b11.length d11, .bool s12, .slice A12 a12.length c12, .slice D12 b12.length d12] 26)
            cases y1 with
            | false =>
              go_wp2_with fail
              refine (f1 _ (bt Bm Bn)).mono ?_; rintro e w3 ⟨rfl, B3⟩
              go_wp2_with fail
              go_ret
              exact ⟨by rw [hval2.out, if_neg (by simp)]; rfl, bt (bt Bm Bn) B3⟩
            | true =>
              go_wp2_with fail
              refine (f1 _ (bt Bm Bn)).mono ?_; rintro e w3 ⟨rfl, B3⟩
              go_wp2_with fail
              go_roundg 0
              case measure => omega
              case rel => exact ⟨1, by omega, rfl, rfl, fun _ => by trivial, bt (bt Bm Bn) B3⟩
        · obtain rfl : k = 1 := by omega
          have z1 := q1 (by omega)
          have hfin : Hid (ans = 0) := by
            show _ = _
            rw [hval2.out, if_pos z1]
          clear q1 z1 hval2 h0
          go_wp2_with fail
          go_ret
          exact ⟨by rw [hfin.out]; rfl, Bm⟩


set_option maxHeartbeats 8000000 in
theorem bcheck2_any (g : Nat) (s11 : Bool) (a11 b11 : List Nat) (s12 : Bool) (a12 b12 : List Nat) (A11 : Option Addr) (c11 : Nat) (D11 : Option Addr) (d11 : Nat) (A12 : Option Addr) (c12 : Nat) (D12 : Option Addr) (d12 : Nat) (s21 : Bool) (a21 b21 : List Nat) (s22 : Bool) (a22 b22 : List Nat) (A21 : Option Addr) (c21 : Nat) (D21 : Option Addr) (d21 : Nat) (A22 : Option Addr) (c22 : Nat) (D22 : Option Addr) (d22 : Nat) (w : World) (hg : SB w g [.bool s11, .slice A11 a11.length c11, .slice D11 b11.length d11, .bool s12, .slice A12 a12.length c12, .slice D12 b12.length d12, .bool s21, .slice A21 a21.length c21, .slice D21 b21.length d21, .bool s22, .slice A22 a22.length c22, .slice D22 b22.length d22]) (r11 : RW w w.heap.size A11 c11 a11) (r12 : RW w w.heap.size D11 d11 b11) (r13 : RW w w.heap.size A12 c12 a12) (r14 : RW w w.heap.size D12 d12 b12) (r21 : RW w w.heap.size A21 c21 a21) (r22 : RW w w.heap.size D21 d21 b21) (r23 : RW w w.heap.size A22 c22 a22) (r24 : RW w w.heap.size D22 d22 b22) :
    Calls Try.prog 42 #[.slice (some ⟨g, 0, none⟩) 2 2] w fun e w' => e = .returned (.int .i64 (bchkN2 ⟨s11, a11, b11⟩ ⟨s12, a12, b12⟩ ⟨s21, a21, b21⟩ ⟨s22, a22, b22⟩)) ∧ Below w.heap.size w w' := by
  have h1 := fun w' B => esound_any (.agg #[.bool s11, .slice A11 a11.length c11, .slice D11 b11.length d11, .bool s12, .slice A12 a12.length c12, .slice D12 b12.length d12]) ⟨s11, a11, b11⟩ ⟨s12, a12, b12⟩ w' (vns r11 r12 r13 r14 B)
  have f1 := fun w' B => whole1_any (.agg #[.bool s11, .slice A11 a11.length c11, .slice D11 b11.length d11, .bool s12, .slice A12 a12.length c12, .slice D12 b12.length d12]) ⟨s11, a11, b11⟩ ⟨s12, a12, b12⟩ w' (vns r11 r12 r13 r14 B)
  have h2 := fun w' B => esound_any (.agg #[.bool s21, .slice A21 a21.length c21, .slice D21 b21.length d21, .bool s22, .slice A22 a22.length c22, .slice D22 b22.length d22]) ⟨s21, a21, b21⟩ ⟨s22, a22, b22⟩ w' (vns r21 r22 r23 r24 B)
  have f2 := fun w' B => whole1_any (.agg #[.bool s21, .slice A21 a21.length c21, .slice D21 b21.length d21, .bool s22, .slice A22 a22.length c22, .slice D22 b22.length d22]) ⟨s21, a21, b21⟩ ⟨s22, a22, b22⟩ w' (vns r21 r22 r23 r24 B)
  obtain ⟨n1, hn1⟩ : ∃ z, Hid (nB ⟨s11, a11, b11⟩ ⟨s12, a12, b12⟩ = z) := ⟨_, rfl⟩
  simp only [hn1.out] at h1
  obtain ⟨y1, hy1⟩ : ∃ z, Hid (wB ⟨s11, a11, b11⟩ ⟨s12, a12, b12⟩ = z) := ⟨_, rfl⟩
  simp only [hy1.out] at f1
  obtain ⟨n2, hn2⟩ : ∃ z, Hid (nB ⟨s21, a21, b21⟩ ⟨s22, a22, b22⟩ = z) := ⟨_, rfl⟩
  simp only [hn2.out] at h2
  obtain ⟨y2, hy2⟩ : ∃ z, Hid (wB ⟨s21, a21, b21⟩ ⟨s22, a22, b22⟩ = z) := ⟨_, rfl⟩
  simp only [hy2.out] at f2
  have hval : Hid (bchkN2 ⟨s11, a11, b11⟩ ⟨s12, a12, b12⟩ ⟨s21, a21, b21⟩ ⟨s22, a22, b22⟩ = if n1 = true ∧ n2 = true then (if y1 = true ∧ y2 = true then 0 else 10) else 2) := by
    show _ = _
    unfold bchkN2
    rw [hn1.out, hn2.out, hy1.out, hy2.out]
  obtain ⟨ans, hans⟩ : ∃ z : Int, Hid (bchkN2 ⟨s11, a11, b11⟩ ⟨s12, a12, b12⟩ ⟨s21, a21, b21⟩ ⟨s22, a22, b22⟩ = z) := ⟨_, rfl⟩
  rw [hans.out]
  go_enter Try.func42, Try.ntmps42
  go_wp2_with fail
  go_loopg [9] 2 (fun gg iv wr => ∃ k : Nat, k ≤ 2 ∧ 2 - k = gg ∧ iv = .int .i64 (k : Int) ∧ (1 ≤ k → n1 = true) ∧ (2 ≤ k → n2 = true) ∧ Below w.heap.size w wr)
  case atStart => exact ⟨0, by omega, rfl, rfl, by intro h; omega, by intro h; omega, Below.refl _ _⟩
  case round =>
    obtain ⟨k, hk, rfl, rfl, q1, q2, Bl⟩ := hrel
    by_cases h0 : k < 2
    · obtain rfl | rfl : k = 0 ∨ k = 1 := by omega
      · have G := hg.nx Bl
        have m0 := G.cell 0
        have m1 := G.cell 1
        have m2 := G.cell 2
        have m3 := G.cell 3
        have m4 := G.cell 4
        have m5 := G.cell 5
        have Bn := bal wr (.cells #[.bool s11, .slice A11 a11.length c11, .slice D11 b11.length d11, .bool s12, .slice A12 a12.length c12, .slice D12 b12.length d12] 26)
        cases n1 with
        | false =>
          go_wp2_with fail
          refine (h1 _ (bt Bl Bn)).mono ?_; rintro e w3 ⟨rfl, B3⟩
          go_wp2_with fail
          go_ret
          exact ⟨by rw [← hans.out, hval.out, if_neg (by simp)]; rfl, bt (bt Bl Bn) B3⟩
        | true =>
          go_wp2_with fail
          refine (h1 _ (bt Bl Bn)).mono ?_; rintro e w3 ⟨rfl, B3⟩
          go_wp2_with fail
          go_roundg 1
          case measure => omega
          case rel => exact ⟨1, by omega, rfl, rfl, fun _ => by trivial, by intro h; omega, bt (bt Bl Bn) B3⟩
      · have G := hg.nx Bl
        have m0 := G.cell 6
        have m1 := G.cell 7
        have m2 := G.cell 8
        have m3 := G.cell 9
        have m4 := G.cell 10
        have m5 := G.cell 11
        have Bn := bal wr (.cells #[.bool s21, .slice A21 a21.length c21, .slice D21 b21.length d21, .bool s22, .slice A22 a22.length c22, .slice D22 b22.length d22] 26)
        cases n2 with
        | false =>
          go_wp2_with fail
          refine (h2 _ (bt Bl Bn)).mono ?_; rintro e w3 ⟨rfl, B3⟩
          go_wp2_with fail
          go_ret
          exact ⟨by rw [← hans.out, hval.out, if_neg (by simp)]; rfl, bt (bt Bl Bn) B3⟩
        | true =>
          go_wp2_with fail
          refine (h2 _ (bt Bl Bn)).mono ?_; rintro e w3 ⟨rfl, B3⟩
          go_wp2_with fail
          go_roundg 0
          case measure => omega
          case rel => exact ⟨2, by omega, rfl, rfl, fun _ => q1 (by omega), fun _ => by trivial, bt (bt Bl Bn) B3⟩
    · obtain rfl : k = 2 := by omega
      have t1 := q1 (by omega)
      have t2 := q2 (by omega)
      subst t1 t2
      clear q1 q2 h0
      have hval2 : Hid (ans = if y1 = true ∧ y2 = true then 0 else 10) := by show _ = _; rw [← hans.out, hval.out, if_pos ⟨rfl, rfl⟩]
      clear hval
      go_wp2_with fail
      go_loopg [19] 2 (fun gg iv ww => ∃ k : Nat, k ≤ 2 ∧ 2 - k = gg ∧ iv = .int .i64 (k : Int) ∧ (1 ≤ k → y1 = true) ∧ (2 ≤ k → y2 = true) ∧ Below w.heap.size w ww)
      case atStart => exact ⟨0, by omega, rfl, rfl, by intro h; omega, by intro h; omega, Bl⟩
      case round =>
        obtain ⟨k, hk, rfl, rfl, q1, q2, Bm⟩ := hrel
        by_cases h0 : k < 2
        · obtain rfl | rfl : k = 0 ∨ k = 1 := by omega
          · have G := hg.nx Bm
            have m0 := G.cell 0
            have m1 := G.cell 1
            have m2 := G.cell 2
            have m3 := G.cell 3
            have m4 := G.cell 4
            have m5 := G.cell 5
            have Bn := bal wr (.cells #[.bool s11, .slice A11 a11.length c11, .slice D11 b11.length d11, .bool s12, .slice A12 a12.length c12, .slice D12 b12.length d12] 26)
            cases y1 with
            | false =>
              go_wp2_with fail
              refine (f1 _ (bt Bm Bn)).mono ?_; rintro e w3 ⟨rfl, B3⟩
              go_wp2_with fail
              go_ret
              exact ⟨by rw [hval2.out, if_neg (by simp)]; rfl, bt (bt Bm Bn) B3⟩
            | true =>
              go_wp2_with fail
              refine (f1 _ (bt Bm Bn)).mono ?_; rintro e w3 ⟨rfl, B3⟩
              go_wp2_with fail
              go_roundg 1
              case measure => omega
              case rel => exact ⟨1, by omega, rfl, rfl, fun _ => by trivial, by intro h; omega, bt (bt Bm Bn) B3⟩
          · have G := hg.nx Bm
            have m0 := G.cell 6
            have m1 := G.cell 7
            have m2 := G.cell 8
            have m3 := G.cell 9
            have m4 := G.cell 10
            have m5 := G.cell 11
            have Bn := bal wr (.cells #[.bool s21, .slice A21 a21.length c21, .slice D21 b21.length d21, .bool s22, .slice A22 a22.length c22, .slice D22 b22.length d22] 26)
            cases y2 with
            | false =>
              go_wp2_with fail
              refine (f2 _ (bt Bm Bn)).mono ?_; rintro e w3 ⟨rfl, B3⟩
              go_wp2_with fail
              go_ret
              exact ⟨by rw [hval2.out, if_neg (by simp)]; rfl, bt (bt Bm Bn) B3⟩
            | true =>
              go_wp2_with fail
              refine (f2 _ (bt Bm Bn)).mono ?_; rintro e w3 ⟨rfl, B3⟩
              go_wp2_with fail
              go_roundg 0
              case measure => omega
              case rel => exact ⟨2, by omega, rfl, rfl, fun _ => q1 (by omega), fun _ => by trivial, bt (bt Bm Bn) B3⟩
        · obtain rfl : k = 2 := by omega
          have z1 := q1 (by omega)
          have z2 := q2 (by omega)
          have hfin : Hid (ans = 0) := by
            show _ = _
            rw [hval2.out, if_pos ⟨z1, z2⟩]
          clear q1 z1 q2 z2 hval2 h0
          go_wp2_with fail
          go_ret
          exact ⟨by rw [hfin.out]; rfl, Bm⟩


set_option maxHeartbeats 8000000 in
theorem rbcheck1_any (g : Nat) (s11 : Bool) (a11 b11 : List Nat) (s12 : Bool) (a12 b12 : List Nat) (A11 : Option Addr) (c11 : Nat) (D11 : Option Addr) (d11 : Nat) (A12 : Option Addr) (c12 : Nat) (D12 : Option Addr) (d12 : Nat) (w : World) (hg : SB w g [.bool s11, .slice A11 a11.length c11, .slice D11 b11.length d11, .bool s12, .slice A12 a12.length c12, .slice D12 b12.length d12]) (r11 : RW w w.heap.size A11 c11 a11) (r12 : RW w w.heap.size D11 d11 b11) (r13 : RW w w.heap.size A12 c12 a12) (r14 : RW w w.heap.size D12 d12 b12) :
    Calls Try.prog 34 #[.slice (some ⟨g, 0, none⟩) 1 1] w fun e w' => e = .returned (.int .i64 (bchkN1 ⟨s11, a11, b11⟩ ⟨s12, a12, b12⟩)) ∧ Below w.heap.size w w' := by
  have h1 := fun w' B => resound_any (.agg #[.bool s11, .slice A11 a11.length c11, .slice D11 b11.length d11, .bool s12, .slice A12 a12.length c12, .slice D12 b12.length d12]) ⟨s11, a11, b11⟩ ⟨s12, a12, b12⟩ w' (vns r11 r12 r13 r14 B)
  have f1 := fun w' B => rwhole1_any (.agg #[.bool s11, .slice A11 a11.length c11, .slice D11 b11.length d11, .bool s12, .slice A12 a12.length c12, .slice D12 b12.length d12]) ⟨s11, a11, b11⟩ ⟨s12, a12, b12⟩ w' (vns r11 r12 r13 r14 B)
  obtain ⟨n1, hn1⟩ : ∃ z, Hid (nB ⟨s11, a11, b11⟩ ⟨s12, a12, b12⟩ = z) := ⟨_, rfl⟩
  simp only [hn1.out] at h1
  obtain ⟨y1, hy1⟩ : ∃ z, Hid (wB ⟨s11, a11, b11⟩ ⟨s12, a12, b12⟩ = z) := ⟨_, rfl⟩
  simp only [hy1.out] at f1
  have hval : Hid (bchkN1 ⟨s11, a11, b11⟩ ⟨s12, a12, b12⟩ = if n1 = true then (if y1 = true then 0 else 10) else 2) := by
    show _ = _
    unfold bchkN1
    rw [hn1.out, hy1.out]
  obtain ⟨ans, hans⟩ : ∃ z : Int, Hid (bchkN1 ⟨s11, a11, b11⟩ ⟨s12, a12, b12⟩ = z) := ⟨_, rfl⟩
  rw [hans.out]
  go_enter Try.func34, Try.ntmps34
  go_wp2_with fail
  go_loopg [3] 1 (fun gg iv wr => ∃ k : Nat, k ≤ 1 ∧ 1 - k = gg ∧ iv = .int .i64 (k : Int) ∧ (1 ≤ k → n1 = true) ∧ Below w.heap.size w wr)
  case atStart => exact ⟨0, by omega, rfl, rfl, by intro h; omega, Below.refl _ _⟩
  case round =>
    obtain ⟨k, hk, rfl, rfl, q1, Bl⟩ := hrel
    by_cases h0 : k < 1
    · obtain rfl : k = 0 := by omega
      · have G := hg.nx Bl
        have m0 := G.cell 0
        have m1 := G.cell 1
        have m2 := G.cell 2
        have m3 := G.cell 3
        have m4 := G.cell 4
        have m5 := G.cell 5
        cases n1 with
        | false =>
          go_wp2_with fail
          refine (h1 _ Bl).mono ?_; rintro e w3 ⟨rfl, B3⟩
          go_wp2_with fail
          go_ret
          exact ⟨by rw [← hans.out, hval.out, if_neg (by simp)]; rfl, bt Bl B3⟩
        | true =>
          go_wp2_with fail
          refine (h1 _ Bl).mono ?_; rintro e w3 ⟨rfl, B3⟩
          go_wp2_with fail
          go_roundg 0
          case measure => omega
          case rel => exact ⟨1, by omega, rfl, rfl, fun _ => by trivial, bt Bl B3⟩
    · obtain rfl : k = 1 := by omega
      have t1 := q1 (by omega)
      subst t1
      clear q1 h0
      have hval2 : Hid (ans = if y1 = true then 0 else 10) := by show _ = _; rw [← hans.out, hval.out, if_pos rfl]
      clear hval
      go_wp2_with fail
      go_loopg [4] 1 (fun gg iv ww => ∃ k : Nat, k ≤ 1 ∧ 1 - k = gg ∧ iv = .int .i64 (k : Int) ∧ (1 ≤ k → y1 = true) ∧ Below w.heap.size w ww)
      case atStart => exact ⟨0, by omega, rfl, rfl, by intro h; omega, Bl⟩
      case round =>
        obtain ⟨k, hk, rfl, rfl, q1, Bm⟩ := hrel
        by_cases h0 : k < 1
        · obtain rfl : k = 0 := by omega
          · have G := hg.nx Bm
            have m0 := G.cell 0
            have m1 := G.cell 1
            have m2 := G.cell 2
            have m3 := G.cell 3
            have m4 := G.cell 4
            have m5 := G.cell 5
            cases y1 with
            | false =>
              go_wp2_with fail
              refine (f1 _ Bm).mono ?_; rintro e w3 ⟨rfl, B3⟩
              go_wp2_with fail
              go_ret
              exact ⟨by rw [hval2.out, if_neg (by simp)]; rfl, bt Bm B3⟩
            | true =>
              go_wp2_with fail
              refine (f1 _ Bm).mono ?_; rintro e w3 ⟨rfl, B3⟩
              go_wp2_with fail
              go_roundg 0
              case measure => omega
              case rel => exact ⟨1, by omega, rfl, rfl, fun _ => by trivial, bt Bm B3⟩
        · obtain rfl : k = 1 := by omega
          have z1 := q1 (by omega)
          have hfin : Hid (ans = 0) := by
            show _ = _
            rw [hval2.out, if_pos z1]
          clear q1 z1 hval2 h0
          go_wp2_with fail
          go_ret
          exact ⟨by rw [hfin.out]; rfl, Bm⟩


set_option maxHeartbeats 8000000 in
theorem rbcheck2_any (g : Nat) (s11 : Bool) (a11 b11 : List Nat) (s12 : Bool) (a12 b12 : List Nat) (A11 : Option Addr) (c11 : Nat) (D11 : Option Addr) (d11 : Nat) (A12 : Option Addr) (c12 : Nat) (D12 : Option Addr) (d12 : Nat) (s21 : Bool) (a21 b21 : List Nat) (s22 : Bool) (a22 b22 : List Nat) (A21 : Option Addr) (c21 : Nat) (D21 : Option Addr) (d21 : Nat) (A22 : Option Addr) (c22 : Nat) (D22 : Option Addr) (d22 : Nat) (w : World) (hg : SB w g [.bool s11, .slice A11 a11.length c11, .slice D11 b11.length d11, .bool s12, .slice A12 a12.length c12, .slice D12 b12.length d12, .bool s21, .slice A21 a21.length c21, .slice D21 b21.length d21, .bool s22, .slice A22 a22.length c22, .slice D22 b22.length d22]) (r11 : RW w w.heap.size A11 c11 a11) (r12 : RW w w.heap.size D11 d11 b11) (r13 : RW w w.heap.size A12 c12 a12) (r14 : RW w w.heap.size D12 d12 b12) (r21 : RW w w.heap.size A21 c21 a21) (r22 : RW w w.heap.size D21 d21 b21) (r23 : RW w w.heap.size A22 c22 a22) (r24 : RW w w.heap.size D22 d22 b22) :
    Calls Try.prog 34 #[.slice (some ⟨g, 0, none⟩) 2 2] w fun e w' => e = .returned (.int .i64 (bchkN2 ⟨s11, a11, b11⟩ ⟨s12, a12, b12⟩ ⟨s21, a21, b21⟩ ⟨s22, a22, b22⟩)) ∧ Below w.heap.size w w' := by
  have h1 := fun w' B => resound_any (.agg #[.bool s11, .slice A11 a11.length c11, .slice D11 b11.length d11, .bool s12, .slice A12 a12.length c12, .slice D12 b12.length d12]) ⟨s11, a11, b11⟩ ⟨s12, a12, b12⟩ w' (vns r11 r12 r13 r14 B)
  have f1 := fun w' B => rwhole1_any (.agg #[.bool s11, .slice A11 a11.length c11, .slice D11 b11.length d11, .bool s12, .slice A12 a12.length c12, .slice D12 b12.length d12]) ⟨s11, a11, b11⟩ ⟨s12, a12, b12⟩ w' (vns r11 r12 r13 r14 B)
  have h2 := fun w' B => resound_any (.agg #[.bool s21, .slice A21 a21.length c21, .slice D21 b21.length d21, .bool s22, .slice A22 a22.length c22, .slice D22 b22.length d22]) ⟨s21, a21, b21⟩ ⟨s22, a22, b22⟩ w' (vns r21 r22 r23 r24 B)
  have f2 := fun w' B => rwhole1_any (.agg #[.bool s21, .slice A21 a21.length c21, .slice D21 b21.length d21, .bool s22, .slice A22 a22.length c22, .slice D22 b22.length d22]) ⟨s21, a21, b21⟩ ⟨s22, a22, b22⟩ w' (vns r21 r22 r23 r24 B)
  obtain ⟨n1, hn1⟩ : ∃ z, Hid (nB ⟨s11, a11, b11⟩ ⟨s12, a12, b12⟩ = z) := ⟨_, rfl⟩
  simp only [hn1.out] at h1
  obtain ⟨y1, hy1⟩ : ∃ z, Hid (wB ⟨s11, a11, b11⟩ ⟨s12, a12, b12⟩ = z) := ⟨_, rfl⟩
  simp only [hy1.out] at f1
  obtain ⟨n2, hn2⟩ : ∃ z, Hid (nB ⟨s21, a21, b21⟩ ⟨s22, a22, b22⟩ = z) := ⟨_, rfl⟩
  simp only [hn2.out] at h2
  obtain ⟨y2, hy2⟩ : ∃ z, Hid (wB ⟨s21, a21, b21⟩ ⟨s22, a22, b22⟩ = z) := ⟨_, rfl⟩
  simp only [hy2.out] at f2
  have hval : Hid (bchkN2 ⟨s11, a11, b11⟩ ⟨s12, a12, b12⟩ ⟨s21, a21, b21⟩ ⟨s22, a22, b22⟩ = if n1 = true ∧ n2 = true then (if y1 = true ∧ y2 = true then 0 else 10) else 2) := by
    show _ = _
    unfold bchkN2
    rw [hn1.out, hn2.out, hy1.out, hy2.out]
  obtain ⟨ans, hans⟩ : ∃ z : Int, Hid (bchkN2 ⟨s11, a11, b11⟩ ⟨s12, a12, b12⟩ ⟨s21, a21, b21⟩ ⟨s22, a22, b22⟩ = z) := ⟨_, rfl⟩
  rw [hans.out]
  go_enter Try.func34, Try.ntmps34
  go_wp2_with fail
  go_loopg [3] 2 (fun gg iv wr => ∃ k : Nat, k ≤ 2 ∧ 2 - k = gg ∧ iv = .int .i64 (k : Int) ∧ (1 ≤ k → n1 = true) ∧ (2 ≤ k → n2 = true) ∧ Below w.heap.size w wr)
  case atStart => exact ⟨0, by omega, rfl, rfl, by intro h; omega, by intro h; omega, Below.refl _ _⟩
  case round =>
    obtain ⟨k, hk, rfl, rfl, q1, q2, Bl⟩ := hrel
    by_cases h0 : k < 2
    · obtain rfl | rfl : k = 0 ∨ k = 1 := by omega
      · have G := hg.nx Bl
        have m0 := G.cell 0
        have m1 := G.cell 1
        have m2 := G.cell 2
        have m3 := G.cell 3
        have m4 := G.cell 4
        have m5 := G.cell 5
        cases n1 with
        | false =>
          go_wp2_with fail
          refine (h1 _ Bl).mono ?_; rintro e w3 ⟨rfl, B3⟩
          go_wp2_with fail
          go_ret
          exact ⟨by rw [← hans.out, hval.out, if_neg (by simp)]; rfl, bt Bl B3⟩
        | true =>
          go_wp2_with fail
          refine (h1 _ Bl).mono ?_; rintro e w3 ⟨rfl, B3⟩
          go_wp2_with fail
          go_roundg 1
          case measure => omega
          case rel => exact ⟨1, by omega, rfl, rfl, fun _ => by trivial, by intro h; omega, bt Bl B3⟩
      · have G := hg.nx Bl
        have m0 := G.cell 6
        have m1 := G.cell 7
        have m2 := G.cell 8
        have m3 := G.cell 9
        have m4 := G.cell 10
        have m5 := G.cell 11
        cases n2 with
        | false =>
          go_wp2_with fail
          refine (h2 _ Bl).mono ?_; rintro e w3 ⟨rfl, B3⟩
          go_wp2_with fail
          go_ret
          exact ⟨by rw [← hans.out, hval.out, if_neg (by simp)]; rfl, bt Bl B3⟩
        | true =>
          go_wp2_with fail
          refine (h2 _ Bl).mono ?_; rintro e w3 ⟨rfl, B3⟩
          go_wp2_with fail
          go_roundg 0
          case measure => omega
          case rel => exact ⟨2, by omega, rfl, rfl, fun _ => q1 (by omega), fun _ => by trivial, bt Bl B3⟩
    · obtain rfl : k = 2 := by omega
      have t1 := q1 (by omega)
      have t2 := q2 (by omega)
      subst t1 t2
      clear q1 q2 h0
      have hval2 : Hid (ans = if y1 = true ∧ y2 = true then 0 else 10) := by show _ = _; rw [← hans.out, hval.out, if_pos ⟨rfl, rfl⟩]
      clear hval
      go_wp2_with fail
      go_loopg [4] 2 (fun gg iv ww => ∃ k : Nat, k ≤ 2 ∧ 2 - k = gg ∧ iv = .int .i64 (k : Int) ∧ (1 ≤ k → y1 = true) ∧ (2 ≤ k → y2 = true) ∧ Below w.heap.size w ww)
      case atStart => exact ⟨0, by omega, rfl, rfl, by intro h; omega, by intro h; omega, Bl⟩
      case round =>
        obtain ⟨k, hk, rfl, rfl, q1, q2, Bm⟩ := hrel
        by_cases h0 : k < 2
        · obtain rfl | rfl : k = 0 ∨ k = 1 := by omega
          · have G := hg.nx Bm
            have m0 := G.cell 0
            have m1 := G.cell 1
            have m2 := G.cell 2
            have m3 := G.cell 3
            have m4 := G.cell 4
            have m5 := G.cell 5
            cases y1 with
            | false =>
              go_wp2_with fail
              refine (f1 _ Bm).mono ?_; rintro e w3 ⟨rfl, B3⟩
              go_wp2_with fail
              go_ret
              exact ⟨by rw [hval2.out, if_neg (by simp)]; rfl, bt Bm B3⟩
            | true =>
              go_wp2_with fail
              refine (f1 _ Bm).mono ?_; rintro e w3 ⟨rfl, B3⟩
              go_wp2_with fail
              go_roundg 1
              case measure => omega
              case rel => exact ⟨1, by omega, rfl, rfl, fun _ => by trivial, by intro h; omega, bt Bm B3⟩
          · have G := hg.nx Bm
            have m0 := G.cell 6
            have m1 := G.cell 7
            have m2 := G.cell 8
            have m3 := G.cell 9
            have m4 := G.cell 10
            have m5 := G.cell 11
            cases y2 with
            | false =>
              go_wp2_with fail
              refine (f2 _ Bm).mono ?_; rintro e w3 ⟨rfl, B3⟩
              go_wp2_with fail
              go_ret
              exact ⟨by rw [hval2.out, if_neg (by simp)]; rfl, bt Bm B3⟩
            | true =>
              go_wp2_with fail
              refine (f2 _ Bm).mono ?_; rintro e w3 ⟨rfl, B3⟩
              go_wp2_with fail
              go_roundg 0
              case measure => omega
              case rel => exact ⟨2, by omega, rfl, rfl, fun _ => q1 (by omega), fun _ => by trivial, bt Bm B3⟩
        · obtain rfl : k = 2 := by omega
          have z1 := q1 (by omega)
          have z2 := q2 (by omega)
          have hfin : Hid (ans = 0) := by
            show _ = _
            rw [hval2.out, if_pos ⟨z1, z2⟩]
          clear q1 z1 q2 z2 hval2 h0
          go_wp2_with fail
          go_ret
          exact ⟨by rw [hfin.out]; rfl, Bm⟩

end Go.Proofs.Ytnlgoedklmjhlaa
namespace Go.Proofs.Ytnlgoedklmjhlaa
open Go.RowKit


set_option maxRecDepth 100000 in
set_option maxHeartbeats 16000000 in
theorem each_bad_And (s1 s2 t1 t2 : Bool) (a1 b1 a2 b2 e1 f1 e2 f2 : List Nat) (A1 D1 A2 D2 E1 F1 E2 F2 : Option Addr) (c1 d1 c2 d2 j1 k1 j2 k2 : Nat) (w : World) (p1 : RW w w.heap.size A1 c1 a1) (p2 : RW w w.heap.size D1 d1 b1) (p3 : RW w w.heap.size A2 c2 a2) (p4 : RW w w.heap.size D2 d2 b2) (q1 : RW w w.heap.size E1 j1 e1) (q2 : RW w w.heap.size F1 k1 f1) (q3 : RW w w.heap.size E2 j2 e2) (q4 : RW w w.heap.size F2 k2 f2) (k : Int) (hk : bchkN2 ⟨s1, a1, b1⟩ ⟨s2, a2, b2⟩ ⟨t1, e1, f1⟩ ⟨t2, e2, f2⟩ = k) (hk0 : (k == 0) = false) :
    Calls Try.prog 32 #[(.agg #[.bool s1, .slice A1 a1.length c1, .slice D1 b1.length d1, .bool s2, .slice A2 a2.length c2, .slice D2 b2.length d2]), (.agg #[.bool t1, .slice E1 e1.length j1, .slice F1 f1.length k1, .bool t2, .slice E2 e2.length j2, .slice F2 f2.length k2]), .func (.func 33) #[] #[]] w (RetNE w (rw0, rw0, k)) := by
  have kk0 := S3.new w [.bool s1, .slice A1 a1.length c1, .slice D1 b1.length d1, .bool s2, .slice A2 a2.length c2, .slice D2 b2.length d2] [.bool t1, .slice E1 e1.length j1, .slice F1 f1.length k1, .bool t2, .slice E2 e2.length j2, .slice F2 f2.length k2] [.bool false, .slice none 0 0, .slice none 0 0, .bool false, .slice none 0 0, .slice none 0 0] 26 26 26 6
  have LB4 := bal (((w.alloc (.cells #[.bool s1, .slice A1 a1.length c1, .slice D1 b1.length d1, .bool s2, .slice A2 a2.length c2, .slice D2 b2.length d2] 26)).alloc (.cells #[.bool t1, .slice E1 e1.length j1, .slice F1 f1.length k1, .bool t2, .slice E2 e2.length j2, .slice F2 f2.length k2] 26)).alloc (.cells #[.bool false, .slice none 0 0, .slice none 0 0, .bool false, .slice none 0 0, .slice none 0 0] 26)) (.cells #[.bool s1, .slice A1 a1.length c1, .slice D1 b1.length d1, .bool s2, .slice A2 a2.length c2, .slice D2 b2.length d2, .bool t1, .slice E1 e1.length j1, .slice F1 f1.length k1, .bool t2, .slice E2 e2.length j2, .slice F2 f2.length k2] 26)
  have kk1 := kk0.nx LB4
  have SG := SB.new (((w.alloc (.cells #[.bool s1, .slice A1 a1.length c1, .slice D1 b1.length d1, .bool s2, .slice A2 a2.length c2, .slice D2 b2.length d2] 26)).alloc (.cells #[.bool t1, .slice E1 e1.length j1, .slice F1 f1.length k1, .bool t2, .slice E2 e2.length j2, .slice F2 f2.length k2] 26)).alloc (.cells #[.bool false, .slice none 0 0, .slice none 0 0, .bool false, .slice none 0 0, .slice none 0 0] 26)) [.bool s1, .slice A1 a1.length c1, .slice D1 b1.length d1, .bool s2, .slice A2 a2.length c2, .slice D2 b2.length d2, .bool t1, .slice E1 e1.length j1, .slice F1 f1.length k1, .bool t2, .slice E2 e2.length j2, .slice F2 f2.length k2] 26
  have z3 : (((w.alloc (.cells #[.bool s1, .slice A1 a1.length c1, .slice D1 b1.length d1, .bool s2, .slice A2 a2.length c2, .slice D2 b2.length d2] 26)).alloc (.cells #[.bool t1, .slice E1 e1.length j1, .slice F1 f1.length k1, .bool t2, .slice E2 e2.length j2, .slice F2 f2.length k2] 26)).alloc (.cells #[.bool false, .slice none 0 0, .slice none 0 0, .bool false, .slice none 0 0, .slice none 0 0] 26)).heap.size = w.heap.size + 3 := by simp
  rw [z3] at SG
  have hC := fun w' hg h1 h2 h3 h4 g1 g2 g3 g4 => bcheck2_any (w.heap.size + 3) s1 a1 b1 s2 a2 b2 A1 c1 D1 d1 A2 c2 D2 d2 t1 e1 f1 t2 e2 f2 E1 j1 F1 k1 E2 j2 F2 k2 w' hg h1 h2 h3 h4 g1 g2 g3 g4
  have BW := kk1.2.2.2
  obtain ⟨W, hW⟩ : ∃ W, W = (((w.alloc (.cells #[.bool s1, .slice A1 a1.length c1, .slice D1 b1.length d1, .bool s2, .slice A2 a2.length c2, .slice D2 b2.length d2] 26)).alloc (.cells #[.bool t1, .slice E1 e1.length j1, .slice F1 f1.length k1, .bool t2, .slice E2 e2.length j2, .slice F2 f2.length k2] 26)).alloc (.cells #[.bool false, .slice none 0 0, .slice none 0 0, .bool false, .slice none 0 0, .slice none 0 0] 26)).alloc (.cells #[.bool s1, .slice A1 a1.length c1, .slice D1 b1.length d1, .bool s2, .slice A2 a2.length c2, .slice D2 b2.length d2, .bool t1, .slice E1 e1.length j1, .slice F1 f1.length k1, .bool t2, .slice E2 e2.length j2, .slice F2 f2.length k2] 26) := ⟨_, rfl⟩
  have i0 := kk0.1.cell 0
  have i1 := kk0.1.cell 1
  have i2 := kk0.1.cell 2
  have i3 := kk0.1.cell 3
  have i4 := kk0.1.cell 4
  have i5 := kk0.1.cell 5
  have j0 := kk0.2.1.cell 0
  have j1' := kk0.2.1.cell 1
  have j2' := kk0.2.1.cell 2
  have j3 := kk0.2.1.cell 3
  have j4 := kk0.2.1.cell 4
  have j5 := kk0.2.1.cell 5
  simp only [hk] at hC
  have Hk := Lib.hid hk
  clear hk
  have n0 : (k != 0) = true := by simp [bne, hk0]
  go_enter Try.func32, Try.ntmps32
  go_wp2_with fail
  rw [← hW] at kk1 SG BW ⊢
  clear hW kk0 i0 i1 i2 i3 i4 i5 j0 j1' j2' j3 j4 j5
  refine (hC W SG (st p1 BW) (st p2 BW) (st p3 BW) (st p4 BW) (st q1 BW) (st q2 BW) (st q3 BW) (st q4 BW)).mono ?_; rintro e w5 ⟨rfl, B5⟩
  clear hC
  have kk5 := kk1.nx B5
  have hRC := kk5.2.2.1
  go_wp2_with (refine wp_st6 rfl (.tmp 6) (.tmp 19) rfl _ rfl _ _ _ _ _ _ rfl hRC rfl rfl rfl rfl rfl rfl ?_)
  have s6 := kk5.2.2.1.put6 (.bool false) (.slice none 0 0) (.slice none 0 0) (.bool false) (.slice none 0 0) (.slice none 0 0)
  have B6 := wr6_below (b := w.heap.size + 2) kk5.2.2.2 (by omega) (.bool false) (.slice none 0 0) (.slice none 0 0) (.bool false) (.slice none 0 0) (.slice none 0 0)
  have r0' := s6.cell 0
  have r1' := s6.cell 1
  have r2' := s6.cell 2
  have r3' := s6.cell 3
  have r4' := s6.cell 4
  have r5' := s6.cell 5
  refine bodyPost_ret (v := .tuple #[.agg #[.bool false, .slice none 0 0, .slice none 0 0, .bool false, .slice none 0 0, .slice none 0 0], .int .i64 k]) (by simp [results, r0', r1', r2', r3', r4', r5', go_sem]) rfl ?_
  exact retNE_nil k B6


set_option maxRecDepth 100000 in
set_option maxHeartbeats 16000000 in
theorem each_bad_Or (s1 s2 t1 t2 : Bool) (a1 b1 a2 b2 e1 f1 e2 f2 : List Nat) (A1 D1 A2 D2 E1 F1 E2 F2 : Option Addr) (c1 d1 c2 d2 j1 k1 j2 k2 : Nat) (w : World) (p1 : RW w w.heap.size A1 c1 a1) (p2 : RW w w.heap.size D1 d1 b1) (p3 : RW w w.heap.size A2 c2 a2) (p4 : RW w w.heap.size D2 d2 b2) (q1 : RW w w.heap.size E1 j1 e1) (q2 : RW w w.heap.size F1 k1 f1) (q3 : RW w w.heap.size E2 j2 e2) (q4 : RW w w.heap.size F2 k2 f2) (k : Int) (hk : bchkN2 ⟨s1, a1, b1⟩ ⟨s2, a2, b2⟩ ⟨t1, e1, f1⟩ ⟨t2, e2, f2⟩ = k) (hk0 : (k == 0) = false) :
    Calls Try.prog 32 #[(.agg #[.bool s1, .slice A1 a1.length c1, .slice D1 b1.length d1, .bool s2, .slice A2 a2.length c2, .slice D2 b2.length d2]), (.agg #[.bool t1, .slice E1 e1.length j1, .slice F1 f1.length k1, .bool t2, .slice E2 e2.length j2, .slice F2 f2.length k2]), .func (.func 37) #[] #[]] w (RetNE w (rw0, rw0, k)) := by
  have kk0 := S3.new w [.bool s1, .slice A1 a1.length c1, .slice D1 b1.length d1, .bool s2, .slice A2 a2.length c2, .slice D2 b2.length d2] [.bool t1, .slice E1 e1.length j1, .slice F1 f1.length k1, .bool t2, .slice E2 e2.length j2, .slice F2 f2.length k2] [.bool false, .slice none 0 0, .slice none 0 0, .bool false, .slice none 0 0, .slice none 0 0] 26 26 26 6
  have LB4 := bal (((w.alloc (.cells #[.bool s1, .slice A1 a1.length c1, .slice D1 b1.length d1, .bool s2, .slice A2 a2.length c2, .slice D2 b2.length d2] 26)).alloc (.cells #[.bool t1, .slice E1 e1.length j1, .slice F1 f1.length k1, .bool t2, .slice E2 e2.length j2, .slice F2 f2.length k2] 26)).alloc (.cells #[.bool false, .slice none 0 0, .slice none 0 0, .bool false, .slice none 0 0, .slice none 0 0] 26)) (.cells #[.bool s1, .slice A1 a1.length c1, .slice D1 b1.length d1, .bool s2, .slice A2 a2.length c2, .slice D2 b2.length d2, .bool t1, .slice E1 e1.length j1, .slice F1 f1.length k1, .bool t2, .slice E2 e2.length j2, .slice F2 f2.length k2] 26)
  have kk1 := kk0.nx LB4
  have SG := SB.new (((w.alloc (.cells #[.bool s1, .slice A1 a1.length c1, .slice D1 b1.length d1, .bool s2, .slice A2 a2.length c2, .slice D2 b2.length d2] 26)).alloc (.cells #[.bool t1, .slice E1 e1.length j1, .slice F1 f1.length k1, .bool t2, .slice E2 e2.length j2, .slice F2 f2.length k2] 26)).alloc (.cells #[.bool false, .slice none 0 0, .slice none 0 0, .bool false, .slice none 0 0, .slice none 0 0] 26)) [.bool s1, .slice A1 a1.length c1, .slice D1 b1.length d1, .bool s2, .slice A2 a2.length c2, .slice D2 b2.length d2, .bool t1, .slice E1 e1.length j1, .slice F1 f1.length k1, .bool t2, .slice E2 e2.length j2, .slice F2 f2.length k2] 26
  have z3 : (((w.alloc (.cells #[.bool s1, .slice A1 a1.length c1, .slice D1 b1.length d1, .bool s2, .slice A2 a2.length c2, .slice D2 b2.length d2] 26)).alloc (.cells #[.bool t1, .slice E1 e1.length j1, .slice F1 f1.length k1, .bool t2, .slice E2 e2.length j2, .slice F2 f2.length k2] 26)).alloc (.cells #[.bool false, .slice none 0 0, .slice none 0 0, .bool false, .slice none 0 0, .slice none 0 0] 26)).heap.size = w.heap.size + 3 := by simp
  rw [z3] at SG
  have hC := fun w' hg h1 h2 h3 h4 g1 g2 g3 g4 => bcheck2_any (w.heap.size + 3) s1 a1 b1 s2 a2 b2 A1 c1 D1 d1 A2 c2 D2 d2 t1 e1 f1 t2 e2 f2 E1 j1 F1 k1 E2 j2 F2 k2 w' hg h1 h2 h3 h4 g1 g2 g3 g4
  have BW := kk1.2.2.2
  obtain ⟨W, hW⟩ : ∃ W, W = (((w.alloc (.cells #[.bool s1, .slice A1 a1.length c1, .slice D1 b1.length d1, .bool s2, .slice A2 a2.length c2, .slice D2 b2.length d2] 26)).alloc (.cells #[.bool t1, .slice E1 e1.length j1, .slice F1 f1.length k1, .bool t2, .slice E2 e2.length j2, .slice F2 f2.length k2] 26)).alloc (.cells #[.bool false, .slice none 0 0, .slice none 0 0, .bool false, .slice none 0 0, .slice none 0 0] 26)).alloc (.cells #[.bool s1, .slice A1 a1.length c1, .slice D1 b1.length d1, .bool s2, .slice A2 a2.length c2, .slice D2 b2.length d2, .bool t1, .slice E1 e1.length j1, .slice F1 f1.length k1, .bool t2, .slice E2 e2.length j2, .slice F2 f2.length k2] 26) := ⟨_, rfl⟩
  have i0 := kk0.1.cell 0
  have i1 := kk0.1.cell 1
  have i2 := kk0.1.cell 2
  have i3 := kk0.1.cell 3
  have i4 := kk0.1.cell 4
  have i5 := kk0.1.cell 5
  have j0 := kk0.2.1.cell 0
  have j1' := kk0.2.1.cell 1
  have j2' := kk0.2.1.cell 2
  have j3 := kk0.2.1.cell 3
  have j4 := kk0.2.1.cell 4
  have j5 := kk0.2.1.cell 5
  simp only [hk] at hC
  have Hk := Lib.hid hk
  clear hk
  have n0 : (k != 0) = true := by simp [bne, hk0]
  go_enter Try.func32, Try.ntmps32
  go_wp2_with fail
  rw [← hW] at kk1 SG BW ⊢
  clear hW kk0 i0 i1 i2 i3 i4 i5 j0 j1' j2' j3 j4 j5
  refine (hC W SG (st p1 BW) (st p2 BW) (st p3 BW) (st p4 BW) (st q1 BW) (st q2 BW) (st q3 BW) (st q4 BW)).mono ?_; rintro e w5 ⟨rfl, B5⟩
  clear hC
  have kk5 := kk1.nx B5
  have hRC := kk5.2.2.1
  go_wp2_with (refine wp_st6 rfl (.tmp 6) (.tmp 19) rfl _ rfl _ _ _ _ _ _ rfl hRC rfl rfl rfl rfl rfl rfl ?_)
  have s6 := kk5.2.2.1.put6 (.bool false) (.slice none 0 0) (.slice none 0 0) (.bool false) (.slice none 0 0) (.slice none 0 0)
  have B6 := wr6_below (b := w.heap.size + 2) kk5.2.2.2 (by omega) (.bool false) (.slice none 0 0) (.slice none 0 0) (.bool false) (.slice none 0 0) (.slice none 0 0)
  have r0' := s6.cell 0
  have r1' := s6.cell 1
  have r2' := s6.cell 2
  have r3' := s6.cell 3
  have r4' := s6.cell 4
  have r5' := s6.cell 5
  refine bodyPost_ret (v := .tuple #[.agg #[.bool false, .slice none 0 0, .slice none 0 0, .bool false, .slice none 0 0, .slice none 0 0], .int .i64 k]) (by simp [results, r0', r1', r2', r3', r4', r5', go_sem]) rfl ?_
  exact retNE_nil k B6


set_option maxRecDepth 100000 in
set_option maxHeartbeats 16000000 in
theorem each_bad_Xor (s1 s2 t1 t2 : Bool) (a1 b1 a2 b2 e1 f1 e2 f2 : List Nat) (A1 D1 A2 D2 E1 F1 E2 F2 : Option Addr) (c1 d1 c2 d2 j1 k1 j2 k2 : Nat) (w : World) (p1 : RW w w.heap.size A1 c1 a1) (p2 : RW w w.heap.size D1 d1 b1) (p3 : RW w w.heap.size A2 c2 a2) (p4 : RW w w.heap.size D2 d2 b2) (q1 : RW w w.heap.size E1 j1 e1) (q2 : RW w w.heap.size F1 k1 f1) (q3 : RW w w.heap.size E2 j2 e2) (q4 : RW w w.heap.size F2 k2 f2) (k : Int) (hk : bchkN2 ⟨s1, a1, b1⟩ ⟨s2, a2, b2⟩ ⟨t1, e1, f1⟩ ⟨t2, e2, f2⟩ = k) (hk0 : (k == 0) = false) :
    Calls Try.prog 32 #[(.agg #[.bool s1, .slice A1 a1.length c1, .slice D1 b1.length d1, .bool s2, .slice A2 a2.length c2, .slice D2 b2.length d2]), (.agg #[.bool t1, .slice E1 e1.length j1, .slice F1 f1.length k1, .bool t2, .slice E2 e2.length j2, .slice F2 f2.length k2]), .func (.func 38) #[] #[]] w (RetNE w (rw0, rw0, k)) := by
  have kk0 := S3.new w [.bool s1, .slice A1 a1.length c1, .slice D1 b1.length d1, .bool s2, .slice A2 a2.length c2, .slice D2 b2.length d2] [.bool t1, .slice E1 e1.length j1, .slice F1 f1.length k1, .bool t2, .slice E2 e2.length j2, .slice F2 f2.length k2] [.bool false, .slice none 0 0, .slice none 0 0, .bool false, .slice none 0 0, .slice none 0 0] 26 26 26 6
  have LB4 := bal (((w.alloc (.cells #[.bool s1, .slice A1 a1.length c1, .slice D1 b1.length d1, .bool s2, .slice A2 a2.length c2, .slice D2 b2.length d2] 26)).alloc (.cells #[.bool t1, .slice E1 e1.length j1, .slice F1 f1.length k1, .bool t2, .slice E2 e2.length j2, .slice F2 f2.length k2] 26)).alloc (.cells #[.bool false, .slice none 0 0, .slice none 0 0, .bool false, .slice none 0 0, .slice none 0 0] 26)) (.cells #[.bool s1, .slice A1 a1.length c1, .slice D1 b1.length d1, .bool s2, .slice A2 a2.length c2, .slice D2 b2.length d2, .bool t1, .slice E1 e1.length j1, .slice F1 f1.length k1, .bool t2, .slice E2 e2.length j2, .slice F2 f2.length k2] 26)
  have kk1 := kk0.nx LB4
  have SG := SB.new (((w.alloc (.cells #[.bool s1, .slice A1 a1.length c1, .slice D1 b1.length d1, .bool s2, .slice A2 a2.length c2, .slice D2 b2.length d2] 26)).alloc (.cells #[.bool t1, .slice E1 e1.length j1, .slice F1 f1.length k1, .bool t2, .slice E2 e2.length j2, .slice F2 f2.length k2] 26)).alloc (.cells #[.bool false, .slice none 0 0, .slice none 0 0, .bool false, .slice none 0 0, .slice none 0 0] 26)) [.bool s1, .slice A1 a1.length c1, .slice D1 b1.length d1, .bool s2, .slice A2 a2.length c2, .slice D2 b2.length d2, .bool t1, .slice E1 e1.length j1, .slice F1 f1.length k1, .bool t2, .slice E2 e2.length j2, .slice F2 f2.length k2] 26
  have z3 : (((w.alloc (.cells #[.bool s1, .slice A1 a1.length c1, .slice D1 b1.length d1, .bool s2, .slice A2 a2.length c2, .slice D2 b2.length d2] 26)).alloc (.cells #[.bool t1, .slice E1 e1.length j1, .slice F1 f1.length k1, .bool t2, .slice E2 e2.length j2, .slice F2 f2.length k2] 26)).alloc (.cells #[.bool false, .slice none 0 0, .slice none 0 0, .bool false, .slice none 0 0, .slice none 0 0] 26)).heap.size = w.heap.size + 3 := by simp
  rw [z3] at SG
  have hC := fun w' hg h1 h2 h3 h4 g1 g2 g3 g4 => bcheck2_any (w.heap.size + 3) s1 a1 b1 s2 a2 b2 A1 c1 D1 d1 A2 c2 D2 d2 t1 e1 f1 t2 e2 f2 E1 j1 F1 k1 E2 j2 F2 k2 w' hg h1 h2 h3 h4 g1 g2 g3 g4
  have BW := kk1.2.2.2
  obtain ⟨W, hW⟩ : ∃ W, W = (((w.alloc (.cells #[.bool s1, .slice A1 a1.length c1, .slice D1 b1.length d1, .bool s2, .slice A2 a2.length c2, .slice D2 b2.length d2] 26)).alloc (.cells #[.bool t1, .slice E1 e1.length j1, .slice F1 f1.length k1, .bool t2, .slice E2 e2.length j2, .slice F2 f2.length k2] 26)).alloc (.cells #[.bool false, .slice none 0 0, .slice none 0 0, .bool false, .slice none 0 0, .slice none 0 0] 26)).alloc (.cells #[.bool s1, .slice A1 a1.length c1, .slice D1 b1.length d1, .bool s2, .slice A2 a2.length c2, .slice D2 b2.length d2, .bool t1, .slice E1 e1.length j1, .slice F1 f1.length k1, .bool t2, .slice E2 e2.length j2, .slice F2 f2.length k2] 26) := ⟨_, rfl⟩
  have i0 := kk0.1.cell 0
  have i1 := kk0.1.cell 1
  have i2 := kk0.1.cell 2
  have i3 := kk0.1.cell 3
  have i4 := kk0.1.cell 4
  have i5 := kk0.1.cell 5
  have j0 := kk0.2.1.cell 0
  have j1' := kk0.2.1.cell 1
  have j2' := kk0.2.1.cell 2
  have j3 := kk0.2.1.cell 3
  have j4 := kk0.2.1.cell 4
  have j5 := kk0.2.1.cell 5
  simp only [hk] at hC
  have Hk := Lib.hid hk
  clear hk
  have n0 : (k != 0) = true := by simp [bne, hk0]
  go_enter Try.func32, Try.ntmps32
  go_wp2_with fail
  rw [← hW] at kk1 SG BW ⊢
  clear hW kk0 i0 i1 i2 i3 i4 i5 j0 j1' j2' j3 j4 j5
  refine (hC W SG (st p1 BW) (st p2 BW) (st p3 BW) (st p4 BW) (st q1 BW) (st q2 BW) (st q3 BW) (st q4 BW)).mono ?_; rintro e w5 ⟨rfl, B5⟩
  clear hC
  have kk5 := kk1.nx B5
  have hRC := kk5.2.2.1
  go_wp2_with (refine wp_st6 rfl (.tmp 6) (.tmp 19) rfl _ rfl _ _ _ _ _ _ rfl hRC rfl rfl rfl rfl rfl rfl ?_)
  have s6 := kk5.2.2.1.put6 (.bool false) (.slice none 0 0) (.slice none 0 0) (.bool false) (.slice none 0 0) (.slice none 0 0)
  have B6 := wr6_below (b := w.heap.size + 2) kk5.2.2.2 (by omega) (.bool false) (.slice none 0 0) (.slice none 0 0) (.bool false) (.slice none 0 0) (.slice none 0 0)
  have r0' := s6.cell 0
  have r1' := s6.cell 1
  have r2' := s6.cell 2
  have r3' := s6.cell 3
  have r4' := s6.cell 4
  have r5' := s6.cell 5
  refine bodyPost_ret (v := .tuple #[.agg #[.bool false, .slice none 0 0, .slice none 0 0, .bool false, .slice none 0 0, .slice none 0 0], .int .i64 k]) (by simp [results, r0', r1', r2', r3', r4', r5', go_sem]) rfl ?_
  exact retNE_nil k B6


set_option maxRecDepth 100000 in
set_option maxHeartbeats 16000000 in
theorem each_bad_Not (s1 s2 t1 t2 : Bool) (a1 b1 a2 b2 e1 f1 e2 f2 : List Nat) (A1 D1 A2 D2 E1 F1 E2 F2 : Option Addr) (c1 d1 c2 d2 j1 k1 j2 k2 : Nat) (w : World) (p1 : RW w w.heap.size A1 c1 a1) (p2 : RW w w.heap.size D1 d1 b1) (p3 : RW w w.heap.size A2 c2 a2) (p4 : RW w w.heap.size D2 d2 b2) (q1 : RW w w.heap.size E1 j1 e1) (q2 : RW w w.heap.size F1 k1 f1) (q3 : RW w w.heap.size E2 j2 e2) (q4 : RW w w.heap.size F2 k2 f2) (k : Int) (hk : bchkN2 ⟨s1, a1, b1⟩ ⟨s2, a2, b2⟩ ⟨t1, e1, f1⟩ ⟨t2, e2, f2⟩ = k) (hk0 : (k == 0) = false) :
    Calls Try.prog 32 #[(.agg #[.bool s1, .slice A1 a1.length c1, .slice D1 b1.length d1, .bool s2, .slice A2 a2.length c2, .slice D2 b2.length d2]), (.agg #[.bool t1, .slice E1 e1.length j1, .slice F1 f1.length k1, .bool t2, .slice E2 e2.length j2, .slice F2 f2.length k2]), .func (.func 39) #[] #[]] w (RetNE w (rw0, rw0, k)) := by
  have kk0 := S3.new w [.bool s1, .slice A1 a1.length c1, .slice D1 b1.length d1, .bool s2, .slice A2 a2.length c2, .slice D2 b2.length d2] [.bool t1, .slice E1 e1.length j1, .slice F1 f1.length k1, .bool t2, .slice E2 e2.length j2, .slice F2 f2.length k2] [.bool false, .slice none 0 0, .slice none 0 0, .bool false, .slice none 0 0, .slice none 0 0] 26 26 26 6
  have LB4 := bal (((w.alloc (.cells #[.bool s1, .slice A1 a1.length c1, .slice D1 b1.length d1, .bool s2, .slice A2 a2.length c2, .slice D2 b2.length d2] 26)).alloc (.cells #[.bool t1, .slice E1 e1.length j1, .slice F1 f1.length k1, .bool t2, .slice E2 e2.length j2, .slice F2 f2.length k2] 26)).alloc (.cells #[.bool false, .slice none 0 0, .slice none 0 0, .bool false, .slice none 0 0, .slice none 0 0] 26)) (.cells #[.bool s1, .slice A1 a1.length c1, .slice D1 b1.length d1, .bool s2, .slice A2 a2.length c2, .slice D2 b2.length d2, .bool t1, .slice E1 e1.length j1, .slice F1 f1.length k1, .bool t2, .slice E2 e2.length j2, .slice F2 f2.length k2] 26)
  have kk1 := kk0.nx LB4
  have SG := SB.new (((w.alloc (.cells #[.bool s1, .slice A1 a1.length c1, .slice D1 b1.length d1, .bool s2, .slice A2 a2.length c2, .slice D2 b2.length d2] 26)).alloc (.cells #[.bool t1, .slice E1 e1.length j1, .slice F1 f1.length k1, .bool t2, .slice E2 e2.length j2, .slice F2 f2.length k2] 26)).alloc (.cells #[.bool false, .slice none 0 0, .slice none 0 0, .bool false, .slice none 0 0, .slice none 0 0] 26)) [.bool s1, .slice A1 a1.length c1, .slice D1 b1.length d1, .bool s2, .slice A2 a2.length c2, .slice D2 b2.length d2, .bool t1, .slice E1 e1.length j1, .slice F1 f1.length k1, .bool t2, .slice E2 e2.length j2, .slice F2 f2.length k2] 26
  have z3 : (((w.alloc (.cells #[.bool s1, .slice A1 a1.length c1, .slice D1 b1.length d1, .bool s2, .slice A2 a2.length c2, .slice D2 b2.length d2] 26)).alloc (.cells #[.bool t1, .slice E1 e1.length j1, .slice F1 f1.length k1, .bool t2, .slice E2 e2.length j2, .slice F2 f2.length k2] 26)).alloc (.cells #[.bool false, .slice none 0 0, .slice none 0 0, .bool false, .slice none 0 0, .slice none 0 0] 26)).heap.size = w.heap.size + 3 := by simp
  rw [z3] at SG
  have hC := fun w' hg h1 h2 h3 h4 g1 g2 g3 g4 => bcheck2_any (w.heap.size + 3) s1 a1 b1 s2 a2 b2 A1 c1 D1 d1 A2 c2 D2 d2 t1 e1 f1 t2 e2 f2 E1 j1 F1 k1 E2 j2 F2 k2 w' hg h1 h2 h3 h4 g1 g2 g3 g4
  have BW := kk1.2.2.2
  obtain ⟨W, hW⟩ : ∃ W, W = (((w.alloc (.cells #[.bool s1, .slice A1 a1.length c1, .slice D1 b1.length d1, .bool s2, .slice A2 a2.length c2, .slice D2 b2.length d2] 26)).alloc (.cells #[.bool t1, .slice E1 e1.length j1, .slice F1 f1.length k1, .bool t2, .slice E2 e2.length j2, .slice F2 f2.length k2] 26)).alloc (.cells #[.bool false, .slice none 0 0, .slice none 0 0, .bool false, .slice none 0 0, .slice none 0 0] 26)).alloc (.cells #[.bool s1, .slice A1 a1.length c1, .slice D1 b1.length d1, .bool s2, .slice A2 a2.length c2, .slice D2 b2.length d2, .bool t1, .slice E1 e1.length j1, .slice F1 f1.length k1, .bool t2, .slice E2 e2.length j2, .slice F2 f2.length k2] 26) := ⟨_, rfl⟩
  have i0 := kk0.1.cell 0
  have i1 := kk0.1.cell 1
  have i2 := kk0.1.cell 2
  have i3 := kk0.1.cell 3
  have i4 := kk0.1.cell 4
  have i5 := kk0.1.cell 5
  have j0 := kk0.2.1.cell 0
  have j1' := kk0.2.1.cell 1
  have j2' := kk0.2.1.cell 2
  have j3 := kk0.2.1.cell 3
  have j4 := kk0.2.1.cell 4
  have j5 := kk0.2.1.cell 5
  simp only [hk] at hC
  have Hk := Lib.hid hk
  clear hk
  have n0 : (k != 0) = true := by simp [bne, hk0]
  go_enter Try.func32, Try.ntmps32
  go_wp2_with fail
  rw [← hW] at kk1 SG BW ⊢
  clear hW kk0 i0 i1 i2 i3 i4 i5 j0 j1' j2' j3 j4 j5
  refine (hC W SG (st p1 BW) (st p2 BW) (st p3 BW) (st p4 BW) (st q1 BW) (st q2 BW) (st q3 BW) (st q4 BW)).mono ?_; rintro e w5 ⟨rfl, B5⟩
  clear hC
  have kk5 := kk1.nx B5
  have hRC := kk5.2.2.1
  go_wp2_with (refine wp_st6 rfl (.tmp 6) (.tmp 19) rfl _ rfl _ _ _ _ _ _ rfl hRC rfl rfl rfl rfl rfl rfl ?_)
  have s6 := kk5.2.2.1.put6 (.bool false) (.slice none 0 0) (.slice none 0 0) (.bool false) (.slice none 0 0) (.slice none 0 0)
  have B6 := wr6_below (b := w.heap.size + 2) kk5.2.2.2 (by omega) (.bool false) (.slice none 0 0) (.slice none 0 0) (.bool false) (.slice none 0 0) (.slice none 0 0)
  have r0' := s6.cell 0
  have r1' := s6.cell 1
  have r2' := s6.cell 2
  have r3' := s6.cell 3
  have r4' := s6.cell 4
  have r5' := s6.cell 5
  refine bodyPost_ret (v := .tuple #[.agg #[.bool false, .slice none 0 0, .slice none 0 0, .bool false, .slice none 0 0, .slice none 0 0], .int .i64 k]) (by simp [results, r0', r1', r2', r3', r4', r5', go_sem]) rfl ?_
  exact retNE_nil k B6

end Go.Proofs.Ytnlgoedklmjhlaa
namespace Go.Proofs.Ytnlgoedklmjhlaa
open Go.RowKit


set_option maxRecDepth 100000 in
set_option maxHeartbeats 16000000 in
theorem each_ok_And (s1 s2 t1 t2 : Bool) (a1 b1 a2 b2 e1 f1 e2 f2 : List Nat) (A1 D1 A2 D2 E1 F1 E2 F2 : Option Addr) (c1 d1 c2 d2 j1 k1 j2 k2 : Nat) (w : World) (p1 : RW w w.heap.size A1 c1 a1) (p2 : RW w w.heap.size D1 d1 b1) (p3 : RW w w.heap.size A2 c2 a2) (p4 : RW w w.heap.size D2 d2 b2) (q1 : RW w w.heap.size E1 j1 e1) (q2 : RW w w.heap.size F1 k1 f1) (q3 : RW w w.heap.size E2 j2 e2) (q4 : RW w w.heap.size F2 k2 f2) (X Y : Int) (hX : Hid ((⟨s1, a1, b1⟩ : Rw) = rwq ((X : Int) : Rat) ∧ (⟨s2, a2, b2⟩ : Rw) = rwq 0)) (hY : Hid ((⟨t1, e1, f1⟩ : Rw) = rwq ((Y : Int) : Rat) ∧ (⟨t2, e2, f2⟩ : Rw) = rwq 0)) (lx : a1.length ≤ 512) (ly : e1.length ≤ 512) (hk : bchkN2 ⟨s1, a1, b1⟩ ⟨s2, a2, b2⟩ ⟨t1, e1, f1⟩ ⟨t2, e2, f2⟩ = 0) :
    Calls Try.prog 32 #[(.agg #[.bool s1, .slice A1 a1.length c1, .slice D1 b1.length d1, .bool s2, .slice A2 a2.length c2, .slice D2 b2.length d2]), (.agg #[.bool t1, .slice E1 e1.length j1, .slice F1 f1.length k1, .bool t2, .slice E2 e2.length j2, .slice F2 f2.length k2]), .func (.func 33) #[] #[]] w (RetNE w (fitQ ((rowOp (· &&& ·) (max a1.length e1.length + 1) X Y : Int) : Rat) 0)) := by
  have kk0 := S3.new w [.bool s1, .slice A1 a1.length c1, .slice D1 b1.length d1, .bool s2, .slice A2 a2.length c2, .slice D2 b2.length d2] [.bool t1, .slice E1 e1.length j1, .slice F1 f1.length k1, .bool t2, .slice E2 e2.length j2, .slice F2 f2.length k2] [.bool false, .slice none 0 0, .slice none 0 0, .bool false, .slice none 0 0, .slice none 0 0] 26 26 26 6
  have LB4 := bal (((w.alloc (.cells #[.bool s1, .slice A1 a1.length c1, .slice D1 b1.length d1, .bool s2, .slice A2 a2.length c2, .slice D2 b2.length d2] 26)).alloc (.cells #[.bool t1, .slice E1 e1.length j1, .slice F1 f1.length k1, .bool t2, .slice E2 e2.length j2, .slice F2 f2.length k2] 26)).alloc (.cells #[.bool false, .slice none 0 0, .slice none 0 0, .bool false, .slice none 0 0, .slice none 0 0] 26)) (.cells #[.bool s1, .slice A1 a1.length c1, .slice D1 b1.length d1, .bool s2, .slice A2 a2.length c2, .slice D2 b2.length d2, .bool t1, .slice E1 e1.length j1, .slice F1 f1.length k1, .bool t2, .slice E2 e2.length j2, .slice F2 f2.length k2] 26)
  have kk1 := kk0.nx LB4
  have SG := SB.new (((w.alloc (.cells #[.bool s1, .slice A1 a1.length c1, .slice D1 b1.length d1, .bool s2, .slice A2 a2.length c2, .slice D2 b2.length d2] 26)).alloc (.cells #[.bool t1, .slice E1 e1.length j1, .slice F1 f1.length k1, .bool t2, .slice E2 e2.length j2, .slice F2 f2.length k2] 26)).alloc (.cells #[.bool false, .slice none 0 0, .slice none 0 0, .bool false, .slice none 0 0, .slice none 0 0] 26)) [.bool s1, .slice A1 a1.length c1, .slice D1 b1.length d1, .bool s2, .slice A2 a2.length c2, .slice D2 b2.length d2, .bool t1, .slice E1 e1.length j1, .slice F1 f1.length k1, .bool t2, .slice E2 e2.length j2, .slice F2 f2.length k2] 26
  have z3 : (((w.alloc (.cells #[.bool s1, .slice A1 a1.length c1, .slice D1 b1.length d1, .bool s2, .slice A2 a2.length c2, .slice D2 b2.length d2] 26)).alloc (.cells #[.bool t1, .slice E1 e1.length j1, .slice F1 f1.length k1, .bool t2, .slice E2 e2.length j2, .slice F2 f2.length k2] 26)).alloc (.cells #[.bool false, .slice none 0 0, .slice none 0 0, .bool false, .slice none 0 0, .slice none 0 0] 26)).heap.size = w.heap.size + 3 := by simp
  rw [z3] at SG
  have hC := fun w' hg h1 h2 h3 h4 g1 g2 g3 g4 => bcheck2_any (w.heap.size + 3) s1 a1 b1 s2 a2 b2 A1 c1 D1 d1 A2 c2 D2 d2 t1 e1 f1 t2 e2 f2 E1 j1 F1 k1 E2 j2 F2 k2 w' hg h1 h2 h3 h4 g1 g2 g3 g4
  have BW := kk1.2.2.2
  obtain ⟨W, hW⟩ : ∃ W, W = (((w.alloc (.cells #[.bool s1, .slice A1 a1.length c1, .slice D1 b1.length d1, .bool s2, .slice A2 a2.length c2, .slice D2 b2.length d2] 26)).alloc (.cells #[.bool t1, .slice E1 e1.length j1, .slice F1 f1.length k1, .bool t2, .slice E2 e2.length j2, .slice F2 f2.length k2] 26)).alloc (.cells #[.bool false, .slice none 0 0, .slice none 0 0, .bool false, .slice none 0 0, .slice none 0 0] 26)).alloc (.cells #[.bool s1, .slice A1 a1.length c1, .slice D1 b1.length d1, .bool s2, .slice A2 a2.length c2, .slice D2 b2.length d2, .bool t1, .slice E1 e1.length j1, .slice F1 f1.length k1, .bool t2, .slice E2 e2.length j2, .slice F2 f2.length k2] 26) := ⟨_, rfl⟩
  have i0 := kk0.1.cell 0
  have i1 := kk0.1.cell 1
  have i2 := kk0.1.cell 2
  have i3 := kk0.1.cell 3
  have i4 := kk0.1.cell 4
  have i5 := kk0.1.cell 5
  have j0 := kk0.2.1.cell 0
  have j1' := kk0.2.1.cell 1
  have j2' := kk0.2.1.cell 2
  have j3 := kk0.2.1.cell 3
  have j4 := kk0.2.1.cell 4
  have j5 := kk0.2.1.cell 5
  simp only [hk] at hC
  clear hk
  obtain ⟨M, hM⟩ : ∃ M : Nat, Hid (max a1.length e1.length = M) := ⟨_, rfl⟩
  have m1 : a1.length ≤ M := by have := hM.out; omega
  have m2 : e1.length ≤ M := by have := hM.out; omega
  have m3 : M ≤ 512 := by have := hM.out; omega
  have hmx : max (a1.length : Int) (e1.length : Int) = (M : Int) := by have := hM.out; omega
  have ex : a1 = digs X.natAbs := congrArg Rw.a hX.out.1
  have ey : e1 = digs Y.natAbs := congrArg Rw.a hY.out.1
  have hRX : ∀ V w', VN w' w'.heap.size V ⟨s1, a1, b1⟩ ⟨s2, a2, b2⟩ → Calls Try.prog 44 #[V, .int .i64 ((M : Int) + 1)] w' fun e w'' => ∃ g, e = .returned (.slice (some ⟨g, 0, none⟩) (M + 1) (M + 1)) ∧ OW w'' w'.heap.size (some ⟨g, 0, none⟩) (M + 1) (rowI (M + 1) X) ∧ Below w'.heap.size w' w'' := fun V w' hv => by
    rw [hX.out.1, hX.out.2] at hv
    exact row_any V X (M + 1) w' hv (by rw [← ex]; omega) (by omega) (by omega)
  have hRY : ∀ V w', VN w' w'.heap.size V ⟨t1, e1, f1⟩ ⟨t2, e2, f2⟩ → Calls Try.prog 44 #[V, .int .i64 ((M : Int) + 1)] w' fun e w'' => ∃ g, e = .returned (.slice (some ⟨g, 0, none⟩) (M + 1) (M + 1)) ∧ OW w'' w'.heap.size (some ⟨g, 0, none⟩) (M + 1) (rowI (M + 1) Y) ∧ Below w'.heap.size w' w'' := fun V w' hv => by
    rw [hY.out.1, hY.out.2] at hv
    exact row_any V Y (M + 1) w' hv (by rw [← ey]; omega) (by omega) (by omega)
  rw [hM.out]
  have EX := Lib.hid ex
  have EY := Lib.hid ey
  clear ex ey
  go_enter Try.func32, Try.ntmps32
  go_wp2_with fail
  rw [← hW] at kk1 SG BW ⊢
  clear hW kk0 i0 i1 i2 i3 i4 i5 j0 j1' j2' j3 j4 j5
  refine (hC W SG (st p1 BW) (st p2 BW) (st p3 BW) (st p4 BW) (st q1 BW) (st q2 BW) (st q3 BW) (st q4 BW)).mono ?_; rintro e w5 ⟨rfl, B5⟩
  clear hC SG LB4
  have kk5 := kk1.nx B5
  have i1 := kk5.1.cell 1
  have j1' := kk5.2.1.cell 1
  go_upto_region 5 with fail
  clear i1 j1' hmx
  have kk5d := kk5.dr
  have kk5s := And.intro (kk5d.1.cell 0) (And.intro (kk5d.1.cell 1) (And.intro (kk5d.1.cell 2) (And.intro (kk5d.1.cell 3) (And.intro (kk5d.1.cell 4) (And.intro (kk5d.1.cell 5) (And.intro (kk5d.2.1.cell 0) (And.intro (kk5d.2.1.cell 1) (And.intro (kk5d.2.1.cell 2) (And.intro (kk5d.2.1.cell 3) (And.intro (kk5d.2.1.cell 4) (And.intro (kk5d.2.1.cell 5) (kk5d))))))))))))
  go_region_held3 (fun w' => w'.cell? ⟨w.heap.size, 0, none⟩ = some (.bool s1) ∧ w'.cell? ⟨w.heap.size, 1, none⟩ = some (.slice A1 a1.length c1) ∧ w'.cell? ⟨w.heap.size, 2, none⟩ = some (.slice D1 b1.length d1) ∧ w'.cell? ⟨w.heap.size, 3, none⟩ = some (.bool s2) ∧ w'.cell? ⟨w.heap.size, 4, none⟩ = some (.slice A2 a2.length c2) ∧ w'.cell? ⟨w.heap.size, 5, none⟩ = some (.slice D2 b2.length d2) ∧ w'.cell? ⟨w.heap.size + 1, 0, none⟩ = some (.bool t1) ∧ w'.cell? ⟨w.heap.size + 1, 1, none⟩ = some (.slice E1 e1.length j1) ∧ w'.cell? ⟨w.heap.size + 1, 2, none⟩ = some (.slice F1 f1.length k1) ∧ w'.cell? ⟨w.heap.size + 1, 3, none⟩ = some (.bool t2) ∧ w'.cell? ⟨w.heap.size + 1, 4, none⟩ = some (.slice E2 e2.length j2) ∧ w'.cell? ⟨w.heap.size + 1, 5, none⟩ = some (.slice F2 f2.length k2) ∧ S3 w w.heap.size [.bool s1, .slice A1 a1.length c1, .slice D1 b1.length d1, .bool s2, .slice A2 a2.length c2, .slice D2 b2.length d2] [.bool t1, .slice E1 e1.length j1, .slice F1 f1.length k1, .bool t2, .slice E2 e2.length j2, .slice F2 f2.length k2] 6 w')
    (first
      | with_reducible exact kk5s
      | (have s1 := (by with_reducible assumption : _ ∧ _ ∧ _ ∧ _ ∧ _ ∧ _ ∧ _ ∧ _ ∧ _ ∧ _ ∧ _ ∧ _ ∧ S3 w w.heap.size [.bool s1, .slice A1 a1.length c1, .slice D1 b1.length d1, .bool s2, .slice A2 a2.length c2, .slice D2 b2.length d2] [.bool t1, .slice E1 e1.length j1, .slice F1 f1.length k1, .bool t2, .slice E2 e2.length j2, .slice F2 f2.length k2] 6 _).2.2.2.2.2.2.2.2.2.2.2.2.nx BX; have q0_ := s1.1.cell 0; have q1_ := s1.1.cell 1; have q2_ := s1.1.cell 2; have q3_ := s1.1.cell 3; have q4_ := s1.1.cell 4; have q5_ := s1.1.cell 5; have q6_ := s1.2.1.cell 0; have q7_ := s1.2.1.cell 1; have q8_ := s1.2.1.cell 2; have q9_ := s1.2.1.cell 3; have q10_ := s1.2.1.cell 4; have q11_ := s1.2.1.cell 5; with_reducible exact ⟨q0_, q1_, q2_, q3_, q4_, q5_, q6_, q7_, q8_, q9_, q10_, q11_, s1⟩))
    (first
      | (go_at_call_of 44 (Value.agg #[.bool s1, .slice A1 a1.length c1, .slice D1 b1.length d1, .bool s2, .slice A2 a2.length c2, .slice D2 b2.length d2]); have hh := (by with_reducible assumption : _ ∧ _ ∧ _ ∧ _ ∧ _ ∧ _ ∧ _ ∧ _ ∧ _ ∧ _ ∧ _ ∧ _ ∧ S3 w w.heap.size [.bool s1, .slice A1 a1.length c1, .slice D1 b1.length d1, .bool s2, .slice A2 a2.length c2, .slice D2 b2.length d2] [.bool t1, .slice E1 e1.length j1, .slice F1 f1.length k1, .bool t2, .slice E2 e2.length j2, .slice F2 f2.length k2] 6 _).2.2.2.2.2.2.2.2.2.2.2.2; refine (hRX _ _ (vns p1 p2 p3 p4 hh.2.2.2)).mono ?_; rintro e w21 ⟨g1, rfl, O1, BX⟩; have B21 := BX; have sz21 := hh.2.2.1.2)
      | (go_at_call_of 44 (Value.agg #[.bool t1, .slice E1 e1.length j1, .slice F1 f1.length k1, .bool t2, .slice E2 e2.length j2, .slice F2 f2.length k2]); have hh := (by with_reducible assumption : _ ∧ _ ∧ _ ∧ _ ∧ _ ∧ _ ∧ _ ∧ _ ∧ _ ∧ _ ∧ _ ∧ _ ∧ S3 w w.heap.size [.bool s1, .slice A1 a1.length c1, .slice D1 b1.length d1, .bool s2, .slice A2 a2.length c2, .slice D2 b2.length d2] [.bool t1, .slice E1 e1.length j1, .slice F1 f1.length k1, .bool t2, .slice E2 e2.length j2, .slice F2 f2.length k2] 6 _).2.2.2.2.2.2.2.2.2.2.2.2; refine (hRY _ _ (vns q1 q2 q3 q4 hh.2.2.2)).mono ?_; rintro e w22 ⟨g2, rfl, O2, BX⟩; have B22 := BX; have kk := hh.nx BX))
  have hz22 := B21.size
  have P1 := (O1.below B22 (Nat.le_refl _)).base_le (B := w.heap.size + 3) (by omega)
  have P2 := O2.base_le (B := w.heap.size + 3) (by omega)
  have hne : g1 ≠ g2 := by have := O1.lt.2; have := O2.lt.1; omega
  have RR := kk.2.2.1
  have BB := kk.2.2.2
  clear O1 O2 B21 B22 kk hRX hRY p1 p2 p3 p4 q1 q2 q3 q4 kk1 kk5 B5 BW z3 kk5d kk5s
  obtain ⟨rx, hrx⟩ : ∃ rx, Hid (rowI (M + 1) X = rx) := ⟨_, rfl⟩
  obtain ⟨ry, hry⟩ : ∃ ry, Hid (rowI (M + 1) Y = ry) := ⟨_, rfl⟩
  rw [hrx.out] at P1
  rw [hry.out] at P2
  have hlx : rx.length = M + 1 := by rw [← hrx.out]; exact rowI_len _ _
  have hly : ry.length = M + 1 := by rw [← hry.out]; exact rowI_len _ _
  have HLX := Lib.hid hlx
  have HLY := Lib.hid hly
  have bx := P1.b32
  have by_ := P2.b32
  clear hlx hly
  go_wp2_with fail
  go_loopg [39] (M + 1) (fun gg iv wr => ∃ (k : Nat) (o : List Nat), k ≤ M + 1 ∧ M + 1 - k = gg ∧ iv = .int .i64 (k : Int) ∧ OW wr (w.heap.size + 3) (some ⟨g1, 0, none⟩) (M + 1) o ∧ OW wr (w.heap.size + 3) (some ⟨g2, 0, none⟩) (M + 1) ry ∧
    Hid (o.length = M + 1 ∧ (∀ j, k ≤ j → wd o j = wd rx j) ∧ (∀ j, j < k → wd o j = wd rx j &&& wd ry j)) ∧ RC wr (w.heap.size + 2) 6 ∧ Below w.heap.size w wr)
  case atStart => exact ⟨0, rx, Nat.zero_le _, rfl, rfl, P1, P2, Lib.hid ⟨HLX.out, fun _ _ => rfl, fun j hj => by omega⟩, RR, BB⟩
  case round =>
    obtain ⟨k, o, hk, rfl, rfl, Q1, Q2, hI, RR2, BB2⟩ := hrel
    by_cases hk0 : k < M + 1
    · obtain ⟨hol, hrest, hdone⟩ := hI.out
      have cx := Q1.cell (k := k) (by omega)
      rw [hrest k (Nat.le_refl _)] at cx
      have cy := Q2.cell (k := k) (by have := HLY.out; omega)
      have fx := Q1.frozen k
      have hxl := wd_lt bx k
      have hyl := wd_lt by_ k
      have hgl := (bitOp_and (wd rx k) (wd ry k) hxl hyl).1
      have hset := Q1.set k hgl
      have hl1 := Q1.lt.1
      have Q2' := Q2.far (p := ⟨g1, k, none⟩) (fun g' hA => by cases hA; show g2 ≠ g1; omega) (.int .u32 ((wd rx k &&& wd ry k : Nat) : Int))
      have RR2' := (RR2.sb.far (p := ⟨g1, k, none⟩) (by show w.heap.size + 2 ≠ g1; omega) (.int .u32 ((wd rx k &&& wd ry k : Nat) : Int))).rc (n := 6)
      have BB2' := BB2.setCell (p := ⟨g1, k, none⟩) (by show w.heap.size ≤ g1; omega) (.int .u32 ((wd rx k &&& wd ry k : Nat) : Int))
      have HI : Hid ((o.set k (wd rx k &&& wd ry k)).length = M + 1 ∧ (∀ j, k + 1 ≤ j → wd (o.set k (wd rx k &&& wd ry k)) j = wd rx j) ∧ (∀ j, j < k + 1 → wd (o.set k (wd rx k &&& wd ry k)) j = wd rx j &&& wd ry j)) := by
        refine ⟨by rw [List.length_set]; exact hol, fun j hj => by rw [wd_set_ne (by omega)]; exact hrest j (by omega), fun j hj => ?_⟩
        by_cases e : j = k
        · subst e; exact wd_set_eq (by omega)
        · rw [wd_set_ne (by omega)]; exact hdone j (by omega)
      have hcl := fun (v : World) => (and1_any (wd rx k) (wd ry k) v hxl hyl).mono (fun e (w' : World) (h : e = _ ∧ v = w') => (⟨h.1, h.2.symm⟩ : e = _ ∧ w' = v))
      clear hol hrest hdone hI bx by_
      go_wp2_with fail
      refine wp_region_still_tail 13 (by kernel_rfl) (by kernel_rfl) ?_
      simp only [List.take_succ_cons, List.take_zero, List.drop_succ_cons, List.drop_zero]
      repeat still_step
      still_call (hcl _)
      repeat still_step
      try refine wpStill_nil ?_
      go_wp2_with fail
      go_roundg (M + 1 - (k + 1))
      case measure => omega
      case rel => exact ⟨k + 1, _, by omega, rfl, by go_num, hset, Q2', HI, RR2', bdN BB2' 1⟩
    · obtain rfl : k = M + 1 := by omega
      have ho : o = List.zipWith (· &&& ·) rx ry := by
        obtain ⟨hol, hrest, hdone⟩ := hI.out
        have hzl : (List.zipWith (· &&& ·) rx ry).length = M + 1 := by rw [zip_len (by rw [HLX.out, HLY.out])]; exact HLX.out
        refine List.ext_getElem (by omega) (fun j h1 h2 => ?_)
        have e1 := hdone j (by omega)
        have e2 := zip_wd (g := (· &&& ·)) (a := rx) (b := ry) (by rw [HLX.out, HLY.out]) (k := j) (by rw [HLX.out]; omega)
        have e3 := e1.trans e2.symm
        unfold wd at e3
        rwa [List.getD_eq_getElem?_getD, List.getD_eq_getElem?_getD, List.getElem?_eq_getElem h1, List.getElem?_eq_getElem h2] at e3
      have hol := hI.out.1
      have hN := bnum_any g1 (M + 1) o wr (w.heap.size + 3) Q1 (by omega) (by omega) (by have := RR2.2; omega)
      have hval : Hid (tcI (32 * o.length) (val o) = rowOp (· &&& ·) (M + 1) X Y) := by
        show _ = _
        rw [hol, ho, ← hrx.out, ← hry.out]; rfl
      rw [hval.out, hol] at hN
      clear hol ho hI hval hk0
      obtain ⟨R, hR⟩ : ∃ R, Hid (fitQ ((rowOp (· &&& ·) (M + 1) X Y : Int) : Rat) 0 = R) := ⟨_, rfl⟩
      rw [hR.out] at hN
      obtain ⟨fr, fi, fk⟩ := R
      go_wp2_with fail
      refine hN.mono ?_; rintro e w5 ⟨H1, h1, I1, i1, H2, h2, I2, i2, rfl, O1, O2, O3, O4, B5⟩
      dsimp only at O1 O2 O3 O4
      have hRC := (RR2.sb.below B5 (by omega)).rc (n := 6)
      have BB5 := BB2.trans (B5.mono (by omega))
      go_wp2_with (refine wp_st6 rfl (.tmp 6) (.tmp 58) rfl _ rfl _ _ _ _ _ _ rfl hRC rfl rfl rfl rfl rfl rfl ?_)
      have s6 := hRC.put6 (.bool fr.s) (.slice H1 fr.a.length h1) (.slice I1 fr.b.length i1) (.bool fi.s) (.slice H2 fi.a.length h2) (.slice I2 fi.b.length i2)
      have B6 := wr6_below (b := w.heap.size + 2) BB5 (by omega) (.bool fr.s) (.slice H1 fr.a.length h1) (.slice I1 fr.b.length i1) (.bool fi.s) (.slice H2 fi.a.length h2) (.slice I2 fi.b.length i2)
      have Oa := O1.put6 (b := w.heap.size + 2) (by omega) (.bool fr.s) (.slice H1 fr.a.length h1) (.slice I1 fr.b.length i1) (.bool fi.s) (.slice H2 fi.a.length h2) (.slice I2 fi.b.length i2)
      have Ob := O2.put6 (b := w.heap.size + 2) (by omega) (.bool fr.s) (.slice H1 fr.a.length h1) (.slice I1 fr.b.length i1) (.bool fi.s) (.slice H2 fi.a.length h2) (.slice I2 fi.b.length i2)
      have Oc := O3.put6 (b := w.heap.size + 2) (by omega) (.bool fr.s) (.slice H1 fr.a.length h1) (.slice I1 fr.b.length i1) (.bool fi.s) (.slice H2 fi.a.length h2) (.slice I2 fi.b.length i2)
      have Od := O4.put6 (b := w.heap.size + 2) (by omega) (.bool fr.s) (.slice H1 fr.a.length h1) (.slice I1 fr.b.length i1) (.bool fi.s) (.slice H2 fi.a.length h2) (.slice I2 fi.b.length i2)
      have r0' := s6.cell 0
      have r1' := s6.cell 1
      have r2' := s6.cell 2
      have r3' := s6.cell 3
      have r4' := s6.cell 4
      have r5' := s6.cell 5
      refine bodyPost_ret (v := .tuple #[.agg #[.bool fr.s, .slice H1 fr.a.length h1, .slice I1 fr.b.length i1, .bool fi.s, .slice H2 fi.a.length h2, .slice I2 fi.b.length i2], .int .i64 fk]) (by simp [results, r0', r1', r2', r3', r4', r5', go_sem]) rfl ?_
      rw [hR.out]
      exact ⟨H1, h1, I1, i1, H2, h2, I2, i2, rfl, Oa.base_le (by omega), Ob.base_le (by omega), Oc.base_le (by omega), Od.base_le (by omega), B6⟩


set_option maxRecDepth 100000 in
set_option maxHeartbeats 16000000 in
theorem each_ok_Or (s1 s2 t1 t2 : Bool) (a1 b1 a2 b2 e1 f1 e2 f2 : List Nat) (A1 D1 A2 D2 E1 F1 E2 F2 : Option Addr) (c1 d1 c2 d2 j1 k1 j2 k2 : Nat) (w : World) (p1 : RW w w.heap.size A1 c1 a1) (p2 : RW w w.heap.size D1 d1 b1) (p3 : RW w w.heap.size A2 c2 a2) (p4 : RW w w.heap.size D2 d2 b2) (q1 : RW w w.heap.size E1 j1 e1) (q2 : RW w w.heap.size F1 k1 f1) (q3 : RW w w.heap.size E2 j2 e2) (q4 : RW w w.heap.size F2 k2 f2) (X Y : Int) (hX : Hid ((⟨s1, a1, b1⟩ : Rw) = rwq ((X : Int) : Rat) ∧ (⟨s2, a2, b2⟩ : Rw) = rwq 0)) (hY : Hid ((⟨t1, e1, f1⟩ : Rw) = rwq ((Y : Int) : Rat) ∧ (⟨t2, e2, f2⟩ : Rw) = rwq 0)) (lx : a1.length ≤ 512) (ly : e1.length ≤ 512) (hk : bchkN2 ⟨s1, a1, b1⟩ ⟨s2, a2, b2⟩ ⟨t1, e1, f1⟩ ⟨t2, e2, f2⟩ = 0) :
    Calls Try.prog 32 #[(.agg #[.bool s1, .slice A1 a1.length c1, .slice D1 b1.length d1, .bool s2, .slice A2 a2.length c2, .slice D2 b2.length d2]), (.agg #[.bool t1, .slice E1 e1.length j1, .slice F1 f1.length k1, .bool t2, .slice E2 e2.length j2, .slice F2 f2.length k2]), .func (.func 37) #[] #[]] w (RetNE w (fitQ ((rowOp (· ||| ·) (max a1.length e1.length + 1) X Y : Int) : Rat) 0)) := by
  have kk0 := S3.new w [.bool s1, .slice A1 a1.length c1, .slice D1 b1.length d1, .bool s2, .slice A2 a2.length c2, .slice D2 b2.length d2] [.bool t1, .slice E1 e1.length j1, .slice F1 f1.length k1, .bool t2, .slice E2 e2.length j2, .slice F2 f2.length k2] [.bool false, .slice none 0 0, .slice none 0 0, .bool false, .slice none 0 0, .slice none 0 0] 26 26 26 6
  have LB4 := bal (((w.alloc (.cells #[.bool s1, .slice A1 a1.length c1, .slice D1 b1.length d1, .bool s2, .slice A2 a2.length c2, .slice D2 b2.length d2] 26)).alloc (.cells #[.bool t1, .slice E1 e1.length j1, .slice F1 f1.length k1, .bool t2, .slice E2 e2.length j2, .slice F2 f2.length k2] 26)).alloc (.cells #[.bool false, .slice none 0 0, .slice none 0 0, .bool false, .slice none 0 0, .slice none 0 0] 26)) (.cells #[.bool s1, .slice A1 a1.length c1, .slice D1 b1.length d1, .bool s2, .slice A2 a2.length c2, .slice D2 b2.length d2, .bool t1, .slice E1 e1.length j1, .slice F1 f1.length k1, .bool t2, .slice E2 e2.length j2, .slice F2 f2.length k2] 26)
  have kk1 := kk0.nx LB4
  have SG := SB.new (((w.alloc (.cells #[.bool s1, .slice A1 a1.length c1, .slice D1 b1.length d1, .bool s2, .slice A2 a2.length c2, .slice D2 b2.length d2] 26)).alloc (.cells #[.bool t1, .slice E1 e1.length j1, .slice F1 f1.length k1, .bool t2, .slice E2 e2.length j2, .slice F2 f2.length k2] 26)).alloc (.cells #[.bool false, .slice none 0 0, .slice none 0 0, .bool false, .slice none 0 0, .slice none 0 0] 26)) [.bool s1, .slice A1 a1.length c1, .slice D1 b1.length d1, .bool s2, .slice A2 a2.length c2, .slice D2 b2.length d2, .bool t1, .slice E1 e1.length j1, .slice F1 f1.length k1, .bool t2, .slice E2 e2.length j2, .slice F2 f2.length k2] 26
  have z3 : (((w.alloc (.cells #[.bool s1, .slice A1 a1.length c1, .slice D1 b1.length d1, .bool s2, .slice A2 a2.length c2, .slice D2 b2.length d2] 26)).alloc (.cells #[.bool t1, .slice E1 e1.length j1, .slice F1 f1.length k1, .bool t2, .slice E2 e2.length j2, .slice F2 f2.length k2] 26)).alloc (.cells #[.bool false, .slice none 0 0, .slice none 0 0, .bool false, .slice none 0 0, .slice none 0 0] 26)).heap.size = w.heap.size + 3 := by simp
  rw [z3] at SG
  have hC := fun w' hg h1 h2 h3 h4 g1 g2 g3 g4 => bcheck2_any (w.heap.size + 3) s1 a1 b1 s2 a2 b2 A1 c1 D1 d1 A2 c2 D2 d2 t1 e1 f1 t2 e2 f2 E1 j1 F1 k1 E2 j2 F2 k2 w' hg h1 h2 h3 h4 g1 g2 g3 g4
  have BW := kk1.2.2.2
  obtain ⟨W, hW⟩ : ∃ W, W = (((w.alloc (.cells #[.bool s1, .slice A1 a1.length c1, .slice D1 b1.length d1, .bool s2, .slice A2 a2.length c2, .slice D2 b2.length d2] 26)).alloc (.cells #[.bool t1, .slice E1 e1.length j1, .slice F1 f1.length k1, .bool t2, .slice E2 e2.length j2, .slice F2 f2.length k2] 26)).alloc (.cells #[.bool false, .slice none 0 0, .slice none 0 0, .bool false, .slice none 0 0, .slice none 0 0] 26)).alloc (.cells #[.bool s1, .slice A1 a1.length c1, .slice D1 b1.length d1, .bool s2, .slice A2 a2.length c2, .slice D2 b2.length d2, .bool t1, .slice E1 e1.length j1, .slice F1 f1.length k1, .bool t2, .slice E2 e2.length j2, .slice F2 f2.length k2] 26) := ⟨_, rfl⟩
  have i0 := kk0.1.cell 0
  have i1 := kk0.1.cell 1
  have i2 := kk0.1.cell 2
  have i3 := kk0.1.cell 3
  have i4 := kk0.1.cell 4
  have i5 := kk0.1.cell 5
  have j0 := kk0.2.1.cell 0
  have j1' := kk0.2.1.cell 1
  have j2' := kk0.2.1.cell 2
  have j3 := kk0.2.1.cell 3
  have j4 := kk0.2.1.cell 4
  have j5 := kk0.2.1.cell 5
  simp only [hk] at hC
  clear hk
  obtain ⟨M, hM⟩ : ∃ M : Nat, Hid (max a1.length e1.length = M) := ⟨_, rfl⟩
  have m1 : a1.length ≤ M := by have := hM.out; omega
  have m2 : e1.length ≤ M := by have := hM.out; omega
  have m3 : M ≤ 512 := by have := hM.out; omega
  have hmx : max (a1.length : Int) (e1.length : Int) = (M : Int) := by have := hM.out; omega
  have ex : a1 = digs X.natAbs := congrArg Rw.a hX.out.1
  have ey : e1 = digs Y.natAbs := congrArg Rw.a hY.out.1
  have hRX : ∀ V w', VN w' w'.heap.size V ⟨s1, a1, b1⟩ ⟨s2, a2, b2⟩ → Calls Try.prog 44 #[V, .int .i64 ((M : Int) + 1)] w' fun e w'' => ∃ g, e = .returned (.slice (some ⟨g, 0, none⟩) (M + 1) (M + 1)) ∧ OW w'' w'.heap.size (some ⟨g, 0, none⟩) (M + 1) (rowI (M + 1) X) ∧ Below w'.heap.size w' w'' := fun V w' hv => by
    rw [hX.out.1, hX.out.2] at hv
    exact row_any V X (M + 1) w' hv (by rw [← ex]; omega) (by omega) (by omega)
  have hRY : ∀ V w', VN w' w'.heap.size V ⟨t1, e1, f1⟩ ⟨t2, e2, f2⟩ → Calls Try.prog 44 #[V, .int .i64 ((M : Int) + 1)] w' fun e w'' => ∃ g, e = .returned (.slice (some ⟨g, 0, none⟩) (M + 1) (M + 1)) ∧ OW w'' w'.heap.size (some ⟨g, 0, none⟩) (M + 1) (rowI (M + 1) Y) ∧ Below w'.heap.size w' w'' := fun V w' hv => by
    rw [hY.out.1, hY.out.2] at hv
    exact row_any V Y (M + 1) w' hv (by rw [← ey]; omega) (by omega) (by omega)
  rw [hM.out]
  have EX := Lib.hid ex
  have EY := Lib.hid ey
  clear ex ey
  go_enter Try.func32, Try.ntmps32
  go_wp2_with fail
  rw [← hW] at kk1 SG BW ⊢
  clear hW kk0 i0 i1 i2 i3 i4 i5 j0 j1' j2' j3 j4 j5
  refine (hC W SG (st p1 BW) (st p2 BW) (st p3 BW) (st p4 BW) (st q1 BW) (st q2 BW) (st q3 BW) (st q4 BW)).mono ?_; rintro e w5 ⟨rfl, B5⟩
  clear hC SG LB4
  have kk5 := kk1.nx B5
  have i1 := kk5.1.cell 1
  have j1' := kk5.2.1.cell 1
  go_upto_region 5 with fail
  clear i1 j1' hmx
  have kk5d := kk5.dr
  have kk5s := And.intro (kk5d.1.cell 0) (And.intro (kk5d.1.cell 1) (And.intro (kk5d.1.cell 2) (And.intro (kk5d.1.cell 3) (And.intro (kk5d.1.cell 4) (And.intro (kk5d.1.cell 5) (And.intro (kk5d.2.1.cell 0) (And.intro (kk5d.2.1.cell 1) (And.intro (kk5d.2.1.cell 2) (And.intro (kk5d.2.1.cell 3) (And.intro (kk5d.2.1.cell 4) (And.intro (kk5d.2.1.cell 5) (kk5d))))))))))))
  go_region_held3 (fun w' => w'.cell? ⟨w.heap.size, 0, none⟩ = some (.bool s1) ∧ w'.cell? ⟨w.heap.size, 1, none⟩ = some (.slice A1 a1.length c1) ∧ w'.cell? ⟨w.heap.size, 2, none⟩ = some (.slice D1 b1.length d1) ∧ w'.cell? ⟨w.heap.size, 3, none⟩ = some (.bool s2) ∧ w'.cell? ⟨w.heap.size, 4, none⟩ = some (.slice A2 a2.length c2) ∧ w'.cell? ⟨w.heap.size, 5, none⟩ = some (.slice D2 b2.length d2) ∧ w'.cell? ⟨w.heap.size + 1, 0, none⟩ = some (.bool t1) ∧ w'.cell? ⟨w.heap.size + 1, 1, none⟩ = some (.slice E1 e1.length j1) ∧ w'.cell? ⟨w.heap.size + 1, 2, none⟩ = some (.slice F1 f1.length k1) ∧ w'.cell? ⟨w.heap.size + 1, 3, none⟩ = some (.bool t2) ∧ w'.cell? ⟨w.heap.size + 1, 4, none⟩ = some (.slice E2 e2.length j2) ∧ w'.cell? ⟨w.heap.size + 1, 5, none⟩ = some (.slice F2 f2.length k2) ∧ S3 w w.heap.size [.bool s1, .slice A1 a1.length c1, .slice D1 b1.length d1, .bool s2, .slice A2 a2.length c2, .slice D2 b2.length d2] [.bool t1, .slice E1 e1.length j1, .slice F1 f1.length k1, .bool t2, .slice E2 e2.length j2, .slice F2 f2.length k2] 6 w')
    (first
      | with_reducible exact kk5s
      | (have s1 := (by with_reducible assumption : _ ∧ _ ∧ _ ∧ _ ∧ _ ∧ _ ∧ _ ∧ _ ∧ _ ∧ _ ∧ _ ∧ _ ∧ S3 w w.heap.size [.bool s1, .slice A1 a1.length c1, .slice D1 b1.length d1, .bool s2, .slice A2 a2.length c2, .slice D2 b2.length d2] [.bool t1, .slice E1 e1.length j1, .slice F1 f1.length k1, .bool t2, .slice E2 e2.length j2, .slice F2 f2.length k2] 6 _).2.2.2.2.2.2.2.2.2.2.2.2.nx BX; have q0_ := s1.1.cell 0; have q1_ := s1.1.cell 1; have q2_ := s1.1.cell 2; have q3_ := s1.1.cell 3; have q4_ := s1.1.cell 4; have q5_ := s1.1.cell 5; have q6_ := s1.2.1.cell 0; have q7_ := s1.2.1.cell 1; have q8_ := s1.2.1.cell 2; have q9_ := s1.2.1.cell 3; have q10_ := s1.2.1.cell 4; have q11_ := s1.2.1.cell 5; with_reducible exact ⟨q0_, q1_, q2_, q3_, q4_, q5_, q6_, q7_, q8_, q9_, q10_, q11_, s1⟩))
    (first
      | (go_at_call_of 44 (Value.agg #[.bool s1, .slice A1 a1.length c1, .slice D1 b1.length d1, .bool s2, .slice A2 a2.length c2, .slice D2 b2.length d2]); have hh := (by with_reducible assumption : _ ∧ _ ∧ _ ∧ _ ∧ _ ∧ _ ∧ _ ∧ _ ∧ _ ∧ _ ∧ _ ∧ _ ∧ S3 w w.heap.size [.bool s1, .slice A1 a1.length c1, .slice D1 b1.length d1, .bool s2, .slice A2 a2.length c2, .slice D2 b2.length d2] [.bool t1, .slice E1 e1.length j1, .slice F1 f1.length k1, .bool t2, .slice E2 e2.length j2, .slice F2 f2.length k2] 6 _).2.2.2.2.2.2.2.2.2.2.2.2; refine (hRX _ _ (vns p1 p2 p3 p4 hh.2.2.2)).mono ?_; rintro e w21 ⟨g1, rfl, O1, BX⟩; have B21 := BX; have sz21 := hh.2.2.1.2)
      | (go_at_call_of 44 (Value.agg #[.bool t1, .slice E1 e1.length j1, .slice F1 f1.length k1, .bool t2, .slice E2 e2.length j2, .slice F2 f2.length k2]); have hh := (by with_reducible assumption : _ ∧ _ ∧ _ ∧ _ ∧ _ ∧ _ ∧ _ ∧ _ ∧ _ ∧ _ ∧ _ ∧ _ ∧ S3 w w.heap.size [.bool s1, .slice A1 a1.length c1, .slice D1 b1.length d1, .bool s2, .slice A2 a2.length c2, .slice D2 b2.length d2] [.bool t1, .slice E1 e1.length j1, .slice F1 f1.length k1, .bool t2, .slice E2 e2.length j2, .slice F2 f2.length k2] 6 _).2.2.2.2.2.2.2.2.2.2.2.2; refine (hRY _ _ (vns q1 q2 q3 q4 hh.2.2.2)).mono ?_; rintro e w22 ⟨g2, rfl, O2, BX⟩; have B22 := BX; have kk := hh.nx BX))
  have hz22 := B21.size
  have P1 := (O1.below B22 (Nat.le_refl _)).base_le (B := w.heap.size + 3) (by omega)
  have P2 := O2.base_le (B := w.heap.size + 3) (by omega)
  have hne : g1 ≠ g2 := by have := O1.lt.2; have := O2.lt.1; omega
  have RR := kk.2.2.1
  have BB := kk.2.2.2
  clear O1 O2 B21 B22 kk hRX hRY p1 p2 p3 p4 q1 q2 q3 q4 kk1 kk5 B5 BW z3 kk5d kk5s
  obtain ⟨rx, hrx⟩ : ∃ rx, Hid (rowI (M + 1) X = rx) := ⟨_, rfl⟩
  obtain ⟨ry, hry⟩ : ∃ ry, Hid (rowI (M + 1) Y = ry) := ⟨_, rfl⟩
  rw [hrx.out] at P1
  rw [hry.out] at P2
  have hlx : rx.length = M + 1 := by rw [← hrx.out]; exact rowI_len _ _
  have hly : ry.length = M + 1 := by rw [← hry.out]; exact rowI_len _ _
  have HLX := Lib.hid hlx
  have HLY := Lib.hid hly
  have bx := P1.b32
  have by_ := P2.b32
  clear hlx hly
  go_wp2_with fail
  go_loopg [39] (M + 1) (fun gg iv wr => ∃ (k : Nat) (o : List Nat), k ≤ M + 1 ∧ M + 1 - k = gg ∧ iv = .int .i64 (k : Int) ∧ OW wr (w.heap.size + 3) (some ⟨g1, 0, none⟩) (M + 1) o ∧ OW wr (w.heap.size + 3) (some ⟨g2, 0, none⟩) (M + 1) ry ∧
    Hid (o.length = M + 1 ∧ (∀ j, k ≤ j → wd o j = wd rx j) ∧ (∀ j, j < k → wd o j = wd rx j ||| wd ry j)) ∧ RC wr (w.heap.size + 2) 6 ∧ Below w.heap.size w wr)
  case atStart => exact ⟨0, rx, Nat.zero_le _, rfl, rfl, P1, P2, Lib.hid ⟨HLX.out, fun _ _ => rfl, fun j hj => by omega⟩, RR, BB⟩
  case round =>
    obtain ⟨k, o, hk, rfl, rfl, Q1, Q2, hI, RR2, BB2⟩ := hrel
    by_cases hk0 : k < M + 1
    · obtain ⟨hol, hrest, hdone⟩ := hI.out
      have cx := Q1.cell (k := k) (by omega)
      rw [hrest k (Nat.le_refl _)] at cx
      have cy := Q2.cell (k := k) (by have := HLY.out; omega)
      have fx := Q1.frozen k
      have hxl := wd_lt bx k
      have hyl := wd_lt by_ k
      have hgl := (bitOp_or (wd rx k) (wd ry k) hxl hyl).1
      have hset := Q1.set k hgl
      have hl1 := Q1.lt.1
      have Q2' := Q2.far (p := ⟨g1, k, none⟩) (fun g' hA => by cases hA; show g2 ≠ g1; omega) (.int .u32 ((wd rx k ||| wd ry k : Nat) : Int))
      have RR2' := (RR2.sb.far (p := ⟨g1, k, none⟩) (by show w.heap.size + 2 ≠ g1; omega) (.int .u32 ((wd rx k ||| wd ry k : Nat) : Int))).rc (n := 6)
      have BB2' := BB2.setCell (p := ⟨g1, k, none⟩) (by show w.heap.size ≤ g1; omega) (.int .u32 ((wd rx k ||| wd ry k : Nat) : Int))
      have HI : Hid ((o.set k (wd rx k ||| wd ry k)).length = M + 1 ∧ (∀ j, k + 1 ≤ j → wd (o.set k (wd rx k ||| wd ry k)) j = wd rx j) ∧ (∀ j, j < k + 1 → wd (o.set k (wd rx k ||| wd ry k)) j = wd rx j ||| wd ry j)) := by
        refine ⟨by rw [List.length_set]; exact hol, fun j hj => by rw [wd_set_ne (by omega)]; exact hrest j (by omega), fun j hj => ?_⟩
        by_cases e : j = k
        · subst e; exact wd_set_eq (by omega)
        · rw [wd_set_ne (by omega)]; exact hdone j (by omega)
      have hcl := fun (v : World) => (or1_any (wd rx k) (wd ry k) v hxl hyl).mono (fun e (w' : World) (h : e = _ ∧ v = w') => (⟨h.1, h.2.symm⟩ : e = _ ∧ w' = v))
      clear hol hrest hdone hI bx by_
      go_wp2_with fail
      refine wp_region_still_tail 13 (by kernel_rfl) (by kernel_rfl) ?_
      simp only [List.take_succ_cons, List.take_zero, List.drop_succ_cons, List.drop_zero]
      repeat still_step
      still_call (hcl _)
      repeat still_step
      try refine wpStill_nil ?_
      go_wp2_with fail
      go_roundg (M + 1 - (k + 1))
      case measure => omega
      case rel => exact ⟨k + 1, _, by omega, rfl, by go_num, hset, Q2', HI, RR2', bdN BB2' 1⟩
    · obtain rfl : k = M + 1 := by omega
      have ho : o = List.zipWith (· ||| ·) rx ry := by
        obtain ⟨hol, hrest, hdone⟩ := hI.out
        have hzl : (List.zipWith (· ||| ·) rx ry).length = M + 1 := by rw [zip_len (by rw [HLX.out, HLY.out])]; exact HLX.out
        refine List.ext_getElem (by omega) (fun j h1 h2 => ?_)
        have e1 := hdone j (by omega)
        have e2 := zip_wd (g := (· ||| ·)) (a := rx) (b := ry) (by rw [HLX.out, HLY.out]) (k := j) (by rw [HLX.out]; omega)
        have e3 := e1.trans e2.symm
        unfold wd at e3
        rwa [List.getD_eq_getElem?_getD, List.getD_eq_getElem?_getD, List.getElem?_eq_getElem h1, List.getElem?_eq_getElem h2] at e3
      have hol := hI.out.1
      have hN := bnum_any g1 (M + 1) o wr (w.heap.size + 3) Q1 (by omega) (by omega) (by have := RR2.2; omega)
      have hval : Hid (tcI (32 * o.length) (val o) = rowOp (· ||| ·) (M + 1) X Y) := by
        show _ = _
        rw [hol, ho, ← hrx.out, ← hry.out]; rfl
      rw [hval.out, hol] at hN
      clear hol ho hI hval hk0
      obtain ⟨R, hR⟩ : ∃ R, Hid (fitQ ((rowOp (· ||| ·) (M + 1) X Y : Int) : Rat) 0 = R) := ⟨_, rfl⟩
      rw [hR.out] at hN
      obtain ⟨fr, fi, fk⟩ := R
      go_wp2_with fail
      refine hN.mono ?_; rintro e w5 ⟨H1, h1, I1, i1, H2, h2, I2, i2, rfl, O1, O2, O3, O4, B5⟩
      dsimp only at O1 O2 O3 O4
      have hRC := (RR2.sb.below B5 (by omega)).rc (n := 6)
      have BB5 := BB2.trans (B5.mono (by omega))
      go_wp2_with (refine wp_st6 rfl (.tmp 6) (.tmp 58) rfl _ rfl _ _ _ _ _ _ rfl hRC rfl rfl rfl rfl rfl rfl ?_)
      have s6 := hRC.put6 (.bool fr.s) (.slice H1 fr.a.length h1) (.slice I1 fr.b.length i1) (.bool fi.s) (.slice H2 fi.a.length h2) (.slice I2 fi.b.length i2)
      have B6 := wr6_below (b := w.heap.size + 2) BB5 (by omega) (.bool fr.s) (.slice H1 fr.a.length h1) (.slice I1 fr.b.length i1) (.bool fi.s) (.slice H2 fi.a.length h2) (.slice I2 fi.b.length i2)
      have Oa := O1.put6 (b := w.heap.size + 2) (by omega) (.bool fr.s) (.slice H1 fr.a.length h1) (.slice I1 fr.b.length i1) (.bool fi.s) (.slice H2 fi.a.length h2) (.slice I2 fi.b.length i2)
      have Ob := O2.put6 (b := w.heap.size + 2) (by omega) (.bool fr.s) (.slice H1 fr.a.length h1) (.slice I1 fr.b.length i1) (.bool fi.s) (.slice H2 fi.a.length h2) (.slice I2 fi.b.length i2)
      have Oc := O3.put6 (b := w.heap.size + 2) (by omega) (.bool fr.s) (.slice H1 fr.a.length h1) (.slice I1 fr.b.length i1) (.bool fi.s) (.slice H2 fi.a.length h2) (.slice I2 fi.b.length i2)
      have Od := O4.put6 (b := w.heap.size + 2) (by omega) (.bool fr.s) (.slice H1 fr.a.length h1) (.slice I1 fr.b.length i1) (.bool fi.s) (.slice H2 fi.a.length h2) (.slice I2 fi.b.length i2)
      have r0' := s6.cell 0
      have r1' := s6.cell 1
      have r2' := s6.cell 2
      have r3' := s6.cell 3
      have r4' := s6.cell 4
      have r5' := s6.cell 5
      refine bodyPost_ret (v := .tuple #[.agg #[.bool fr.s, .slice H1 fr.a.length h1, .slice I1 fr.b.length i1, .bool fi.s, .slice H2 fi.a.length h2, .slice I2 fi.b.length i2], .int .i64 fk]) (by simp [results, r0', r1', r2', r3', r4', r5', go_sem]) rfl ?_
      rw [hR.out]
      exact ⟨H1, h1, I1, i1, H2, h2, I2, i2, rfl, Oa.base_le (by omega), Ob.base_le (by omega), Oc.base_le (by omega), Od.base_le (by omega), B6⟩


set_option maxRecDepth 100000 in
set_option maxHeartbeats 16000000 in
theorem each_ok_Xor (s1 s2 t1 t2 : Bool) (a1 b1 a2 b2 e1 f1 e2 f2 : List Nat) (A1 D1 A2 D2 E1 F1 E2 F2 : Option Addr) (c1 d1 c2 d2 j1 k1 j2 k2 : Nat) (w : World) (p1 : RW w w.heap.size A1 c1 a1) (p2 : RW w w.heap.size D1 d1 b1) (p3 : RW w w.heap.size A2 c2 a2) (p4 : RW w w.heap.size D2 d2 b2) (q1 : RW w w.heap.size E1 j1 e1) (q2 : RW w w.heap.size F1 k1 f1) (q3 : RW w w.heap.size E2 j2 e2) (q4 : RW w w.heap.size F2 k2 f2) (X Y : Int) (hX : Hid ((⟨s1, a1, b1⟩ : Rw) = rwq ((X : Int) : Rat) ∧ (⟨s2, a2, b2⟩ : Rw) = rwq 0)) (hY : Hid ((⟨t1, e1, f1⟩ : Rw) = rwq ((Y : Int) : Rat) ∧ (⟨t2, e2, f2⟩ : Rw) = rwq 0)) (lx : a1.length ≤ 512) (ly : e1.length ≤ 512) (hk : bchkN2 ⟨s1, a1, b1⟩ ⟨s2, a2, b2⟩ ⟨t1, e1, f1⟩ ⟨t2, e2, f2⟩ = 0) :
    Calls Try.prog 32 #[(.agg #[.bool s1, .slice A1 a1.length c1, .slice D1 b1.length d1, .bool s2, .slice A2 a2.length c2, .slice D2 b2.length d2]), (.agg #[.bool t1, .slice E1 e1.length j1, .slice F1 f1.length k1, .bool t2, .slice E2 e2.length j2, .slice F2 f2.length k2]), .func (.func 38) #[] #[]] w (RetNE w (fitQ ((rowOp (· ^^^ ·) (max a1.length e1.length + 1) X Y : Int) : Rat) 0)) := by
  have kk0 := S3.new w [.bool s1, .slice A1 a1.length c1, .slice D1 b1.length d1, .bool s2, .slice A2 a2.length c2, .slice D2 b2.length d2] [.bool t1, .slice E1 e1.length j1, .slice F1 f1.length k1, .bool t2, .slice E2 e2.length j2, .slice F2 f2.length k2] [.bool false, .slice none 0 0, .slice none 0 0, .bool false, .slice none 0 0, .slice none 0 0] 26 26 26 6
  have LB4 := bal (((w.alloc (.cells #[.bool s1, .slice A1 a1.length c1, .slice D1 b1.length d1, .bool s2, .slice A2 a2.length c2, .slice D2 b2.length d2] 26)).alloc (.cells #[.bool t1, .slice E1 e1.length j1, .slice F1 f1.length k1, .bool t2, .slice E2 e2.length j2, .slice F2 f2.length k2] 26)).alloc (.cells #[.bool false, .slice none 0 0, .slice none 0 0, .bool false, .slice none 0 0, .slice none 0 0] 26)) (.cells #[.bool s1, .slice A1 a1.length c1, .slice D1 b1.length d1, .bool s2, .slice A2 a2.length c2, .slice D2 b2.length d2, .bool t1, .slice E1 e1.length j1, .slice F1 f1.length k1, .bool t2, .slice E2 e2.length j2, .slice F2 f2.length k2] 26)
  have kk1 := kk0.nx LB4
  have SG := SB.new (((w.alloc (.cells #[.bool s1, .slice A1 a1.length c1, .slice D1 b1.length d1, .bool s2, .slice A2 a2.length c2, .slice D2 b2.length d2] 26)).alloc (.cells #[.bool t1, .slice E1 e1.length j1, .slice F1 f1.length k1, .bool t2, .slice E2 e2.length j2, .slice F2 f2.length k2] 26)).alloc (.cells #[.bool false, .slice none 0 0, .slice none 0 0, .bool false, .slice none 0 0, .slice none 0 0] 26)) [.bool s1, .slice A1 a1.length c1, .slice D1 b1.length d1, .bool s2, .slice A2 a2.length c2, .slice D2 b2.length d2, .bool t1, .slice E1 e1.length j1, .slice F1 f1.length k1, .bool t2, .slice E2 e2.length j2, .slice F2 f2.length k2] 26
  have z3 : (((w.alloc (.cells #[.bool s1, .slice A1 a1.length c1, .slice D1 b1.length d1, .bool s2, .slice A2 a2.length c2, .slice D2 b2.length d2] 26)).alloc (.cells #[.bool t1, .slice E1 e1.length j1, .slice F1 f1.length k1, .bool t2, .slice E2 e2.length j2, .slice F2 f2.length k2] 26)).alloc (.cells #[.bool false, .slice none 0 0, .slice none 0 0, .bool false, .slice none 0 0, .slice none 0 0] 26)).heap.size = w.heap.size + 3 := by simp
  rw [z3] at SG
  have hC := fun w' hg h1 h2 h3 h4 g1 g2 g3 g4 => bcheck2_any (w.heap.size + 3) s1 a1 b1 s2 a2 b2 A1 c1 D1 d1 A2 c2 D2 d2 t1 e1 f1 t2 e2 f2 E1 j1 F1 k1 E2 j2 F2 k2 w' hg h1 h2 h3 h4 g1 g2 g3 g4
  have BW := kk1.2.2.2
  obtain ⟨W, hW⟩ : ∃ W, W = (((w.alloc (.cells #[.bool s1, .slice A1 a1.length c1, .slice D1 b1.length d1, .bool s2, .slice A2 a2.length c2, .slice D2 b2.length d2] 26)).alloc (.cells #[.bool t1, .slice E1 e1.length j1, .slice F1 f1.length k1, .bool t2, .slice E2 e2.length j2, .slice F2 f2.length k2] 26)).alloc (.cells #[.bool false, .slice none 0 0, .slice none 0 0, .bool false, .slice none 0 0, .slice none 0 0] 26)).alloc (.cells #[.bool s1, .slice A1 a1.length c1, .slice D1 b1.length d1, .bool s2, .slice A2 a2.length c2, .slice D2 b2.length d2, .bool t1, .slice E1 e1.length j1, .slice F1 f1.length k1, .bool t2, .slice E2 e2.length j2, .slice F2 f2.length k2] 26) := ⟨_, rfl⟩
  have i0 := kk0.1.cell 0
  have i1 := kk0.1.cell 1
  have i2 := kk0.1.cell 2
  have i3 := kk0.1.cell 3
  have i4 := kk0.1.cell 4
  have i5 := kk0.1.cell 5
  have j0 := kk0.2.1.cell 0
  have j1' := kk0.2.1.cell 1
  have j2' := kk0.2.1.cell 2
  have j3 := kk0.2.1.cell 3
  have j4 := kk0.2.1.cell 4
  have j5 := kk0.2.1.cell 5
  simp only [hk] at hC
  clear hk
  obtain ⟨M, hM⟩ : ∃ M : Nat, Hid (max a1.length e1.length = M) := ⟨_, rfl⟩
  have m1 : a1.length ≤ M := by have := hM.out; omega
  have m2 : e1.length ≤ M := by have := hM.out; omega
  have m3 : M ≤ 512 := by have := hM.out; omega
  have hmx : max (a1.length : Int) (e1.length : Int) = (M : Int) := by have := hM.out; omega
  have ex : a1 = digs X.natAbs := congrArg Rw.a hX.out.1
  have ey : e1 = digs Y.natAbs := congrArg Rw.a hY.out.1
  have hRX : ∀ V w', VN w' w'.heap.size V ⟨s1, a1, b1⟩ ⟨s2, a2, b2⟩ → Calls Try.prog 44 #[V, .int .i64 ((M : Int) + 1)] w' fun e w'' => ∃ g, e = .returned (.slice (some ⟨g, 0, none⟩) (M + 1) (M + 1)) ∧ OW w'' w'.heap.size (some ⟨g, 0, none⟩) (M + 1) (rowI (M + 1) X) ∧ Below w'.heap.size w' w'' := fun V w' hv => by
    rw [hX.out.1, hX.out.2] at hv
    exact row_any V X (M + 1) w' hv (by rw [← ex]; omega) (by omega) (by omega)
  have hRY : ∀ V w', VN w' w'.heap.size V ⟨t1, e1, f1⟩ ⟨t2, e2, f2⟩ → Calls Try.prog 44 #[V, .int .i64 ((M : Int) + 1)] w' fun e w'' => ∃ g, e = .returned (.slice (some ⟨g, 0, none⟩) (M + 1) (M + 1)) ∧ OW w'' w'.heap.size (some ⟨g, 0, none⟩) (M + 1) (rowI (M + 1) Y) ∧ Below w'.heap.size w' w'' := fun V w' hv => by
    rw [hY.out.1, hY.out.2] at hv
    exact row_any V Y (M + 1) w' hv (by rw [← ey]; omega) (by omega) (by omega)
  rw [hM.out]
  have EX := Lib.hid ex
  have EY := Lib.hid ey
  clear ex ey
  go_enter Try.func32, Try.ntmps32
  go_wp2_with fail
  rw [← hW] at kk1 SG BW ⊢
  clear hW kk0 i0 i1 i2 i3 i4 i5 j0 j1' j2' j3 j4 j5
  refine (hC W SG (st p1 BW) (st p2 BW) (st p3 BW) (st p4 BW) (st q1 BW) (st q2 BW) (st q3 BW) (st q4 BW)).mono ?_; rintro e w5 ⟨rfl, B5⟩
  clear hC SG LB4
  have kk5 := kk1.nx B5
  have i1 := kk5.1.cell 1
  have j1' := kk5.2.1.cell 1
  go_upto_region 5 with fail
  clear i1 j1' hmx
  have kk5d := kk5.dr
  have kk5s := And.intro (kk5d.1.cell 0) (And.intro (kk5d.1.cell 1) (And.intro (kk5d.1.cell 2) (And.intro (kk5d.1.cell 3) (And.intro (kk5d.1.cell 4) (And.intro (kk5d.1.cell 5) (And.intro (kk5d.2.1.cell 0) (And.intro (kk5d.2.1.cell 1) (And.intro (kk5d.2.1.cell 2) (And.intro (kk5d.2.1.cell 3) (And.intro (kk5d.2.1.cell 4) (And.intro (kk5d.2.1.cell 5) (kk5d))))))))))))
  go_region_held3 (fun w' => w'.cell? ⟨w.heap.size, 0, none⟩ = some (.bool s1) ∧ w'.cell? ⟨w.heap.size, 1, none⟩ = some (.slice A1 a1.length c1) ∧ w'.cell? ⟨w.heap.size, 2, none⟩ = some (.slice D1 b1.length d1) ∧ w'.cell? ⟨w.heap.size, 3, none⟩ = some (.bool s2) ∧ w'.cell? ⟨w.heap.size, 4, none⟩ = some (.slice A2 a2.length c2) ∧ w'.cell? ⟨w.heap.size, 5, none⟩ = some (.slice D2 b2.length d2) ∧ w'.cell? ⟨w.heap.size + 1, 0, none⟩ = some (.bool t1) ∧ w'.cell? ⟨w.heap.size + 1, 1, none⟩ = some (.slice E1 e1.length j1) ∧ w'.cell? ⟨w.heap.size + 1, 2, none⟩ = some (.slice F1 f1.length k1) ∧ w'.cell? ⟨w.heap.size + 1, 3, none⟩ = some (.bool t2) ∧ w'.cell? ⟨w.heap.size + 1, 4, none⟩ = some (.slice E2 e2.length j2) ∧ w'.cell? ⟨w.heap.size + 1, 5, none⟩ = some (.slice F2 f2.length k2) ∧ S3 w w.heap.size [.bool s1, .slice A1 a1.length c1, .slice D1 b1.length d1, .bool s2, .slice A2 a2.length c2, .slice D2 b2.length d2] [.bool t1, .slice E1 e1.length j1, .slice F1 f1.length k1, .bool t2, .slice E2 e2.length j2, .slice F2 f2.length k2] 6 w')
    (first
      | with_reducible exact kk5s
      | (have s1 := (by with_reducible assumption : _ ∧ _ ∧ _ ∧ _ ∧ _ ∧ _ ∧ _ ∧ _ ∧ _ ∧ _ ∧ _ ∧ _ ∧ S3 w w.heap.size [.bool s1, .slice A1 a1.length c1, .slice D1 b1.length d1, .bool s2, .slice A2 a2.length c2, .slice D2 b2.length d2] [.bool t1, .slice E1 e1.length j1, .slice F1 f1.length k1, .bool t2, .slice E2 e2.length j2, .slice F2 f2.length k2] 6 _).2.2.2.2.2.2.2.2.2.2.2.2.nx BX; have q0_ := s1.1.cell 0; have q1_ := s1.1.cell 1; have q2_ := s1.1.cell 2; have q3_ := s1.1.cell 3; have q4_ := s1.1.cell 4; have q5_ := s1.1.cell 5; have q6_ := s1.2.1.cell 0; have q7_ := s1.2.1.cell 1; have q8_ := s1.2.1.cell 2; have q9_ := s1.2.1.cell 3; have q10_ := s1.2.1.cell 4; have q11_ := s1.2.1.cell 5; with_reducible exact ⟨q0_, q1_, q2_, q3_, q4_, q5_, q6_, q7_, q8_, q9_, q10_, q11_, s1⟩))
    (first
      | (go_at_call_of 44 (Value.agg #[.bool s1, .slice A1 a1.length c1, .slice D1 b1.length d1, .bool s2, .slice A2 a2.length c2, .slice D2 b2.length d2]); have hh := (by with_reducible assumption : _ ∧ _ ∧ _ ∧ _ ∧ _ ∧ _ ∧ _ ∧ _ ∧ _ ∧ _ ∧ _ ∧ _ ∧ S3 w w.heap.size [.bool s1, .slice A1 a1.length c1, .slice D1 b1.length d1, .bool s2, .slice A2 a2.length c2, .slice D2 b2.length d2] [.bool t1, .slice E1 e1.length j1, .slice F1 f1.length k1, .bool t2, .slice E2 e2.length j2, .slice F2 f2.length k2] 6 _).2.2.2.2.2.2.2.2.2.2.2.2; refine (hRX _ _ (vns p1 p2 p3 p4 hh.2.2.2)).mono ?_; rintro e w21 ⟨g1, rfl, O1, BX⟩; have B21 := BX; have sz21 := hh.2.2.1.2)
      | (go_at_call_of 44 (Value.agg #[.bool t1, .slice E1 e1.length j1, .slice F1 f1.length k1, .bool t2, .slice E2 e2.length j2, .slice F2 f2.length k2]); have hh := (by with_reducible assumption : _ ∧ _ ∧ _ ∧ _ ∧ _ ∧ _ ∧ _ ∧ _ ∧ _ ∧ _ ∧ _ ∧ _ ∧ S3 w w.heap.size [.bool s1, .slice A1 a1.length c1, .slice D1 b1.length d1, .bool s2, .slice A2 a2.length c2, .slice D2 b2.length d2] [.bool t1, .slice E1 e1.length j1, .slice F1 f1.length k1, .bool t2, .slice E2 e2.length j2, .slice F2 f2.length k2] 6 _).2.2.2.2.2.2.2.2.2.2.2.2; refine (hRY _ _ (vns q1 q2 q3 q4 hh.2.2.2)).mono ?_; rintro e w22 ⟨g2, rfl, O2, BX⟩; have B22 := BX; have kk := hh.nx BX))
  have hz22 := B21.size
  have P1 := (O1.below B22 (Nat.le_refl _)).base_le (B := w.heap.size + 3) (by omega)
  have P2 := O2.base_le (B := w.heap.size + 3) (by omega)
  have hne : g1 ≠ g2 := by have := O1.lt.2; have := O2.lt.1; omega
  have RR := kk.2.2.1
  have BB := kk.2.2.2
  clear O1 O2 B21 B22 kk hRX hRY p1 p2 p3 p4 q1 q2 q3 q4 kk1 kk5 B5 BW z3 kk5d kk5s
  obtain ⟨rx, hrx⟩ : ∃ rx, Hid (rowI (M + 1) X = rx) := ⟨_, rfl⟩
  obtain ⟨ry, hry⟩ : ∃ ry, Hid (rowI (M + 1) Y = ry) := ⟨_, rfl⟩
  rw [hrx.out] at P1
  rw [hry.out] at P2
  have hlx : rx.length = M + 1 := by rw [← hrx.out]; exact rowI_len _ _
  have hly : ry.length = M + 1 := by rw [← hry.out]; exact rowI_len _ _
  have HLX := Lib.hid hlx
  have HLY := Lib.hid hly
  have bx := P1.b32
  have by_ := P2.b32
  clear hlx hly
  go_wp2_with fail
  go_loopg [39] (M + 1) (fun gg iv wr => ∃ (k : Nat) (o : List Nat), k ≤ M + 1 ∧ M + 1 - k = gg ∧ iv = .int .i64 (k : Int) ∧ OW wr (w.heap.size + 3) (some ⟨g1, 0, none⟩) (M + 1) o ∧ OW wr (w.heap.size + 3) (some ⟨g2, 0, none⟩) (M + 1) ry ∧
    Hid (o.length = M + 1 ∧ (∀ j, k ≤ j → wd o j = wd rx j) ∧ (∀ j, j < k → wd o j = wd rx j ^^^ wd ry j)) ∧ RC wr (w.heap.size + 2) 6 ∧ Below w.heap.size w wr)
  case atStart => exact ⟨0, rx, Nat.zero_le _, rfl, rfl, P1, P2, Lib.hid ⟨HLX.out, fun _ _ => rfl, fun j hj => by omega⟩, RR, BB⟩
  case round =>
    obtain ⟨k, o, hk, rfl, rfl, Q1, Q2, hI, RR2, BB2⟩ := hrel
    by_cases hk0 : k < M + 1
    · obtain ⟨hol, hrest, hdone⟩ := hI.out
      have cx := Q1.cell (k := k) (by omega)
      rw [hrest k (Nat.le_refl _)] at cx
      have cy := Q2.cell (k := k) (by have := HLY.out; omega)
      have fx := Q1.frozen k
      have hxl := wd_lt bx k
      have hyl := wd_lt by_ k
      have hgl := (bitOp_xor (wd rx k) (wd ry k) hxl hyl).1
      have hset := Q1.set k hgl
      have hl1 := Q1.lt.1
      have Q2' := Q2.far (p := ⟨g1, k, none⟩) (fun g' hA => by cases hA; show g2 ≠ g1; omega) (.int .u32 ((wd rx k ^^^ wd ry k : Nat) : Int))
      have RR2' := (RR2.sb.far (p := ⟨g1, k, none⟩) (by show w.heap.size + 2 ≠ g1; omega) (.int .u32 ((wd rx k ^^^ wd ry k : Nat) : Int))).rc (n := 6)
      have BB2' := BB2.setCell (p := ⟨g1, k, none⟩) (by show w.heap.size ≤ g1; omega) (.int .u32 ((wd rx k ^^^ wd ry k : Nat) : Int))
      have HI : Hid ((o.set k (wd rx k ^^^ wd ry k)).length = M + 1 ∧ (∀ j, k + 1 ≤ j → wd (o.set k (wd rx k ^^^ wd ry k)) j = wd rx j) ∧ (∀ j, j < k + 1 → wd (o.set k (wd rx k ^^^ wd ry k)) j = wd rx j ^^^ wd ry j)) := by
        refine ⟨by rw [List.length_set]; exact hol, fun j hj => by rw [wd_set_ne (by omega)]; exact hrest j (by omega), fun j hj => ?_⟩
        by_cases e : j = k
        · subst e; exact wd_set_eq (by omega)
        · rw [wd_set_ne (by omega)]; exact hdone j (by omega)
      have hcl := fun (v : World) => (xor1_any (wd rx k) (wd ry k) v hxl hyl).mono (fun e (w' : World) (h : e = _ ∧ v = w') => (⟨h.1, h.2.symm⟩ : e = _ ∧ w' = v))
      clear hol hrest hdone hI bx by_
      go_wp2_with fail
      refine wp_region_still_tail 13 (by kernel_rfl) (by kernel_rfl) ?_
      simp only [List.take_succ_cons, List.take_zero, List.drop_succ_cons, List.drop_zero]
      repeat still_step
      still_call (hcl _)
      repeat still_step
      try refine wpStill_nil ?_
      go_wp2_with fail
      go_roundg (M + 1 - (k + 1))
      case measure => omega
      case rel => exact ⟨k + 1, _, by omega, rfl, by go_num, hset, Q2', HI, RR2', bdN BB2' 1⟩
    · obtain rfl : k = M + 1 := by omega
      have ho : o = List.zipWith (· ^^^ ·) rx ry := by
        obtain ⟨hol, hrest, hdone⟩ := hI.out
        have hzl : (List.zipWith (· ^^^ ·) rx ry).length = M + 1 := by rw [zip_len (by rw [HLX.out, HLY.out])]; exact HLX.out
        refine List.ext_getElem (by omega) (fun j h1 h2 => ?_)
        have e1 := hdone j (by omega)
        have e2 := zip_wd (g := (· ^^^ ·)) (a := rx) (b := ry) (by rw [HLX.out, HLY.out]) (k := j) (by rw [HLX.out]; omega)
        have e3 := e1.trans e2.symm
        unfold wd at e3
        rwa [List.getD_eq_getElem?_getD, List.getD_eq_getElem?_getD, List.getElem?_eq_getElem h1, List.getElem?_eq_getElem h2] at e3
      have hol := hI.out.1
      have hN := bnum_any g1 (M + 1) o wr (w.heap.size + 3) Q1 (by omega) (by omega) (by have := RR2.2; omega)
      have hval : Hid (tcI (32 * o.length) (val o) = rowOp (· ^^^ ·) (M + 1) X Y) := by
        show _ = _
        rw [hol, ho, ← hrx.out, ← hry.out]; rfl
      rw [hval.out, hol] at hN
      clear hol ho hI hval hk0
      obtain ⟨R, hR⟩ : ∃ R, Hid (fitQ ((rowOp (· ^^^ ·) (M + 1) X Y : Int) : Rat) 0 = R) := ⟨_, rfl⟩
      rw [hR.out] at hN
      obtain ⟨fr, fi, fk⟩ := R
      go_wp2_with fail
      refine hN.mono ?_; rintro e w5 ⟨H1, h1, I1, i1, H2, h2, I2, i2, rfl, O1, O2, O3, O4, B5⟩
      dsimp only at O1 O2 O3 O4
      have hRC := (RR2.sb.below B5 (by omega)).rc (n := 6)
      have BB5 := BB2.trans (B5.mono (by omega))
      go_wp2_with (refine wp_st6 rfl (.tmp 6) (.tmp 58) rfl _ rfl _ _ _ _ _ _ rfl hRC rfl rfl rfl rfl rfl rfl ?_)
      have s6 := hRC.put6 (.bool fr.s) (.slice H1 fr.a.length h1) (.slice I1 fr.b.length i1) (.bool fi.s) (.slice H2 fi.a.length h2) (.slice I2 fi.b.length i2)
      have B6 := wr6_below (b := w.heap.size + 2) BB5 (by omega) (.bool fr.s) (.slice H1 fr.a.length h1) (.slice I1 fr.b.length i1) (.bool fi.s) (.slice H2 fi.a.length h2) (.slice I2 fi.b.length i2)
      have Oa := O1.put6 (b := w.heap.size + 2) (by omega) (.bool fr.s) (.slice H1 fr.a.length h1) (.slice I1 fr.b.length i1) (.bool fi.s) (.slice H2 fi.a.length h2) (.slice I2 fi.b.length i2)
      have Ob := O2.put6 (b := w.heap.size + 2) (by omega) (.bool fr.s) (.slice H1 fr.a.length h1) (.slice I1 fr.b.length i1) (.bool fi.s) (.slice H2 fi.a.length h2) (.slice I2 fi.b.length i2)
      have Oc := O3.put6 (b := w.heap.size + 2) (by omega) (.bool fr.s) (.slice H1 fr.a.length h1) (.slice I1 fr.b.length i1) (.bool fi.s) (.slice H2 fi.a.length h2) (.slice I2 fi.b.length i2)
      have Od := O4.put6 (b := w.heap.size + 2) (by omega) (.bool fr.s) (.slice H1 fr.a.length h1) (.slice I1 fr.b.length i1) (.bool fi.s) (.slice H2 fi.a.length h2) (.slice I2 fi.b.length i2)
      have r0' := s6.cell 0
      have r1' := s6.cell 1
      have r2' := s6.cell 2
      have r3' := s6.cell 3
      have r4' := s6.cell 4
      have r5' := s6.cell 5
      refine bodyPost_ret (v := .tuple #[.agg #[.bool fr.s, .slice H1 fr.a.length h1, .slice I1 fr.b.length i1, .bool fi.s, .slice H2 fi.a.length h2, .slice I2 fi.b.length i2], .int .i64 fk]) (by simp [results, r0', r1', r2', r3', r4', r5', go_sem]) rfl ?_
      rw [hR.out]
      exact ⟨H1, h1, I1, i1, H2, h2, I2, i2, rfl, Oa.base_le (by omega), Ob.base_le (by omega), Oc.base_le (by omega), Od.base_le (by omega), B6⟩


set_option maxRecDepth 100000 in
set_option maxHeartbeats 16000000 in
theorem each_ok_Not (s1 s2 t1 t2 : Bool) (a1 b1 a2 b2 e1 f1 e2 f2 : List Nat) (A1 D1 A2 D2 E1 F1 E2 F2 : Option Addr) (c1 d1 c2 d2 j1 k1 j2 k2 : Nat) (w : World) (p1 : RW w w.heap.size A1 c1 a1) (p2 : RW w w.heap.size D1 d1 b1) (p3 : RW w w.heap.size A2 c2 a2) (p4 : RW w w.heap.size D2 d2 b2) (q1 : RW w w.heap.size E1 j1 e1) (q2 : RW w w.heap.size F1 k1 f1) (q3 : RW w w.heap.size E2 j2 e2) (q4 : RW w w.heap.size F2 k2 f2) (X Y : Int) (hX : Hid ((⟨s1, a1, b1⟩ : Rw) = rwq ((X : Int) : Rat) ∧ (⟨s2, a2, b2⟩ : Rw) = rwq 0)) (hY : Hid ((⟨t1, e1, f1⟩ : Rw) = rwq ((Y : Int) : Rat) ∧ (⟨t2, e2, f2⟩ : Rw) = rwq 0)) (lx : a1.length ≤ 512) (ly : e1.length ≤ 512) (hk : bchkN2 ⟨s1, a1, b1⟩ ⟨s2, a2, b2⟩ ⟨t1, e1, f1⟩ ⟨t2, e2, f2⟩ = 0) :
    Calls Try.prog 32 #[(.agg #[.bool s1, .slice A1 a1.length c1, .slice D1 b1.length d1, .bool s2, .slice A2 a2.length c2, .slice D2 b2.length d2]), (.agg #[.bool t1, .slice E1 e1.length j1, .slice F1 f1.length k1, .bool t2, .slice E2 e2.length j2, .slice F2 f2.length k2]), .func (.func 39) #[] #[]] w (RetNE w (fitQ ((rowOp (fun x _ => 4294967295 - x) (max a1.length e1.length + 1) X Y : Int) : Rat) 0)) := by
  have kk0 := S3.new w [.bool s1, .slice A1 a1.length c1, .slice D1 b1.length d1, .bool s2, .slice A2 a2.length c2, .slice D2 b2.length d2] [.bool t1, .slice E1 e1.length j1, .slice F1 f1.length k1, .bool t2, .slice E2 e2.length j2, .slice F2 f2.length k2] [.bool false, .slice none 0 0, .slice none 0 0, .bool false, .slice none 0 0, .slice none 0 0] 26 26 26 6
  have LB4 := bal (((w.alloc (.cells #[.bool s1, .slice A1 a1.length c1, .slice D1 b1.length d1, .bool s2, .slice A2 a2.length c2, .slice D2 b2.length d2] 26)).alloc (.cells #[.bool t1, .slice E1 e1.length j1, .slice F1 f1.length k1, .bool t2, .slice E2 e2.length j2, .slice F2 f2.length k2] 26)).alloc (.cells #[.bool false, .slice none 0 0, .slice none 0 0, .bool false, .slice none 0 0, .slice none 0 0] 26)) (.cells #[.bool s1, .slice A1 a1.length c1, .slice D1 b1.length d1, .bool s2, .slice A2 a2.length c2, .slice D2 b2.length d2, .bool t1, .slice E1 e1.length j1, .slice F1 f1.length k1, .bool t2, .slice E2 e2.length j2, .slice F2 f2.length k2] 26)
  have kk1 := kk0.nx LB4
  have SG := SB.new (((w.alloc (.cells #[.bool s1, .slice A1 a1.length c1, .slice D1 b1.length d1, .bool s2, .slice A2 a2.length c2, .slice D2 b2.length d2] 26)).alloc (.cells #[.bool t1, .slice E1 e1.length j1, .slice F1 f1.length k1, .bool t2, .slice E2 e2.length j2, .slice F2 f2.length k2] 26)).alloc (.cells #[.bool false, .slice none 0 0, .slice none 0 0, .bool false, .slice none 0 0, .slice none 0 0] 26)) [.bool s1, .slice A1 a1.length c1, .slice D1 b1.length d1, .bool s2, .slice A2 a2.length c2, .slice D2 b2.length d2, .bool t1, .slice E1 e1.length j1, .slice F1 f1.length k1, .bool t2, .slice E2 e2.length j2, .slice F2 f2.length k2] 26
  have z3 : (((w.alloc (.cells #[.bool s1, .slice A1 a1.length c1, .slice D1 b1.length d1, .bool s2, .slice A2 a2.length c2, .slice D2 b2.length d2] 26)).alloc (.cells #[.bool t1, .slice E1 e1.length j1, .slice F1 f1.length k1, .bool t2, .slice E2 e2.length j2, .slice F2 f2.length k2] 26)).alloc (.cells #[.bool false, .slice none 0 0, .slice none 0 0, .bool false, .slice none 0 0, .slice none 0 0] 26)).heap.size = w.heap.size + 3 := by simp
  rw [z3] at SG
  have hC := fun w' hg h1 h2 h3 h4 g1 g2 g3 g4 => bcheck2_any (w.heap.size + 3) s1 a1 b1 s2 a2 b2 A1 c1 D1 d1 A2 c2 D2 d2 t1 e1 f1 t2 e2 f2 E1 j1 F1 k1 E2 j2 F2 k2 w' hg h1 h2 h3 h4 g1 g2 g3 g4
  have BW := kk1.2.2.2
  obtain ⟨W, hW⟩ : ∃ W, W = (((w.alloc (.cells #[.bool s1, .slice A1 a1.length c1, .slice D1 b1.length d1, .bool s2, .slice A2 a2.length c2, .slice D2 b2.length d2] 26)).alloc (.cells #[.bool t1, .slice E1 e1.length j1, .slice F1 f1.length k1, .bool t2, .slice E2 e2.length j2, .slice F2 f2.length k2] 26)).alloc (.cells #[.bool false, .slice none 0 0, .slice none 0 0, .bool false, .slice none 0 0, .slice none 0 0] 26)).alloc (.cells #[.bool s1, .slice A1 a1.length c1, .slice D1 b1.length d1, .bool s2, .slice A2 a2.length c2, .slice D2 b2.length d2, .bool t1, .slice E1 e1.length j1, .slice F1 f1.length k1, .bool t2, .slice E2 e2.length j2, .slice F2 f2.length k2] 26) := ⟨_, rfl⟩
  have i0 := kk0.1.cell 0
  have i1 := kk0.1.cell 1
  have i2 := kk0.1.cell 2
  have i3 := kk0.1.cell 3
  have i4 := kk0.1.cell 4
  have i5 := kk0.1.cell 5
  have j0 := kk0.2.1.cell 0
  have j1' := kk0.2.1.cell 1
  have j2' := kk0.2.1.cell 2
  have j3 := kk0.2.1.cell 3
  have j4 := kk0.2.1.cell 4
  have j5 := kk0.2.1.cell 5
  simp only [hk] at hC
  clear hk
  obtain ⟨M, hM⟩ : ∃ M : Nat, Hid (max a1.length e1.length = M) := ⟨_, rfl⟩
  have m1 : a1.length ≤ M := by have := hM.out; omega
  have m2 : e1.length ≤ M := by have := hM.out; omega
  have m3 : M ≤ 512 := by have := hM.out; omega
  have hmx : max (a1.length : Int) (e1.length : Int) = (M : Int) := by have := hM.out; omega
  have ex : a1 = digs X.natAbs := congrArg Rw.a hX.out.1
  have ey : e1 = digs Y.natAbs := congrArg Rw.a hY.out.1
  have hRX : ∀ V w', VN w' w'.heap.size V ⟨s1, a1, b1⟩ ⟨s2, a2, b2⟩ → Calls Try.prog 44 #[V, .int .i64 ((M : Int) + 1)] w' fun e w'' => ∃ g, e = .returned (.slice (some ⟨g, 0, none⟩) (M + 1) (M + 1)) ∧ OW w'' w'.heap.size (some ⟨g, 0, none⟩) (M + 1) (rowI (M + 1) X) ∧ Below w'.heap.size w' w'' := fun V w' hv => by
    rw [hX.out.1, hX.out.2] at hv
    exact row_any V X (M + 1) w' hv (by rw [← ex]; omega) (by omega) (by omega)
  have hRY : ∀ V w', VN w' w'.heap.size V ⟨t1, e1, f1⟩ ⟨t2, e2, f2⟩ → Calls Try.prog 44 #[V, .int .i64 ((M : Int) + 1)] w' fun e w'' => ∃ g, e = .returned (.slice (some ⟨g, 0, none⟩) (M + 1) (M + 1)) ∧ OW w'' w'.heap.size (some ⟨g, 0, none⟩) (M + 1) (rowI (M + 1) Y) ∧ Below w'.heap.size w' w'' := fun V w' hv => by
    rw [hY.out.1, hY.out.2] at hv
    exact row_any V Y (M + 1) w' hv (by rw [← ey]; omega) (by omega) (by omega)
  rw [hM.out]
  have EX := Lib.hid ex
  have EY := Lib.hid ey
  clear ex ey
  go_enter Try.func32, Try.ntmps32
  go_wp2_with fail
  rw [← hW] at kk1 SG BW ⊢
  clear hW kk0 i0 i1 i2 i3 i4 i5 j0 j1' j2' j3 j4 j5
  refine (hC W SG (st p1 BW) (st p2 BW) (st p3 BW) (st p4 BW) (st q1 BW) (st q2 BW) (st q3 BW) (st q4 BW)).mono ?_; rintro e w5 ⟨rfl, B5⟩
  clear hC SG LB4
  have kk5 := kk1.nx B5
  have i1 := kk5.1.cell 1
  have j1' := kk5.2.1.cell 1
  go_upto_region 5 with fail
  clear i1 j1' hmx
  have kk5d := kk5.dr
  have kk5s := And.intro (kk5d.1.cell 0) (And.intro (kk5d.1.cell 1) (And.intro (kk5d.1.cell 2) (And.intro (kk5d.1.cell 3) (And.intro (kk5d.1.cell 4) (And.intro (kk5d.1.cell 5) (And.intro (kk5d.2.1.cell 0) (And.intro (kk5d.2.1.cell 1) (And.intro (kk5d.2.1.cell 2) (And.intro (kk5d.2.1.cell 3) (And.intro (kk5d.2.1.cell 4) (And.intro (kk5d.2.1.cell 5) (kk5d))))))))))))
  go_region_held3 (fun w' => w'.cell? ⟨w.heap.size, 0, none⟩ = some (.bool s1) ∧ w'.cell? ⟨w.heap.size, 1, none⟩ = some (.slice A1 a1.length c1) ∧ w'.cell? ⟨w.heap.size, 2, none⟩ = some (.slice D1 b1.length d1) ∧ w'.cell? ⟨w.heap.size, 3, none⟩ = some (.bool s2) ∧ w'.cell? ⟨w.heap.size, 4, none⟩ = some (.slice A2 a2.length c2) ∧ w'.cell? ⟨w.heap.size, 5, none⟩ = some (.slice D2 b2.length d2) ∧ w'.cell? ⟨w.heap.size + 1, 0, none⟩ = some (.bool t1) ∧ w'.cell? ⟨w.heap.size + 1, 1, none⟩ = some (.slice E1 e1.length j1) ∧ w'.cell? ⟨w.heap.size + 1, 2, none⟩ = some (.slice F1 f1.length k1) ∧ w'.cell? ⟨w.heap.size + 1, 3, none⟩ = some (.bool t2) ∧ w'.cell? ⟨w.heap.size + 1, 4, none⟩ = some (.slice E2 e2.length j2) ∧ w'.cell? ⟨w.heap.size + 1, 5, none⟩ = some (.slice F2 f2.length k2) ∧ S3 w w.heap.size [.bool s1, .slice A1 a1.length c1, .slice D1 b1.length d1, .bool s2, .slice A2 a2.length c2, .slice D2 b2.length d2] [.bool t1, .slice E1 e1.length j1, .slice F1 f1.length k1, .bool t2, .slice E2 e2.length j2, .slice F2 f2.length k2] 6 w')
    (first
      | with_reducible exact kk5s
      | (have s1 := (by with_reducible assumption : _ ∧ _ ∧ _ ∧ _ ∧ _ ∧ _ ∧ _ ∧ _ ∧ _ ∧ _ ∧ _ ∧ _ ∧ S3 w w.heap.size [.bool s1, .slice A1 a1.length c1, .slice D1 b1.length d1, .bool s2, .slice A2 a2.length c2, .slice D2 b2.length d2] [.bool t1, .slice E1 e1.length j1, .slice F1 f1.length k1, .bool t2, .slice E2 e2.length j2, .slice F2 f2.length k2] 6 _).2.2.2.2.2.2.2.2.2.2.2.2.nx BX; have q0_ := s1.1.cell 0; have q1_ := s1.1.cell 1; have q2_ := s1.1.cell 2; have q3_ := s1.1.cell 3; have q4_ := s1.1.cell 4; have q5_ := s1.1.cell 5; have q6_ := s1.2.1.cell 0; have q7_ := s1.2.1.cell 1; have q8_ := s1.2.1.cell 2; have q9_ := s1.2.1.cell 3; have q10_ := s1.2.1.cell 4; have q11_ := s1.2.1.cell 5; with_reducible exact ⟨q0_, q1_, q2_, q3_, q4_, q5_, q6_, q7_, q8_, q9_, q10_, q11_, s1⟩))
    (first
      | (go_at_call_of 44 (Value.agg #[.bool s1, .slice A1 a1.length c1, .slice D1 b1.length d1, .bool s2, .slice A2 a2.length c2, .slice D2 b2.length d2]); have hh := (by with_reducible assumption : _ ∧ _ ∧ _ ∧ _ ∧ _ ∧ _ ∧ _ ∧ _ ∧ _ ∧ _ ∧ _ ∧ _ ∧ S3 w w.heap.size [.bool s1, .slice A1 a1.length c1, .slice D1 b1.length d1, .bool s2, .slice A2 a2.length c2, .slice D2 b2.length d2] [.bool t1, .slice E1 e1.length j1, .slice F1 f1.length k1, .bool t2, .slice E2 e2.length j2, .slice F2 f2.length k2] 6 _).2.2.2.2.2.2.2.2.2.2.2.2; refine (hRX _ _ (vns p1 p2 p3 p4 hh.2.2.2)).mono ?_; rintro e w21 ⟨g1, rfl, O1, BX⟩; have B21 := BX; have sz21 := hh.2.2.1.2)
      | (go_at_call_of 44 (Value.agg #[.bool t1, .slice E1 e1.length j1, .slice F1 f1.length k1, .bool t2, .slice E2 e2.length j2, .slice F2 f2.length k2]); have hh := (by with_reducible assumption : _ ∧ _ ∧ _ ∧ _ ∧ _ ∧ _ ∧ _ ∧ _ ∧ _ ∧ _ ∧ _ ∧ _ ∧ S3 w w.heap.size [.bool s1, .slice A1 a1.length c1, .slice D1 b1.length d1, .bool s2, .slice A2 a2.length c2, .slice D2 b2.length d2] [.bool t1, .slice E1 e1.length j1, .slice F1 f1.length k1, .bool t2, .slice E2 e2.length j2, .slice F2 f2.length k2] 6 _).2.2.2.2.2.2.2.2.2.2.2.2; refine (hRY _ _ (vns q1 q2 q3 q4 hh.2.2.2)).mono ?_; rintro e w22 ⟨g2, rfl, O2, BX⟩; have B22 := BX; have kk := hh.nx BX))
  have hz22 := B21.size
  have P1 := (O1.below B22 (Nat.le_refl _)).base_le (B := w.heap.size + 3) (by omega)
  have P2 := O2.base_le (B := w.heap.size + 3) (by omega)
  have hne : g1 ≠ g2 := by have := O1.lt.2; have := O2.lt.1; omega
  have RR := kk.2.2.1
  have BB := kk.2.2.2
  clear O1 O2 B21 B22 kk hRX hRY p1 p2 p3 p4 q1 q2 q3 q4 kk1 kk5 B5 BW z3 kk5d kk5s
  obtain ⟨rx, hrx⟩ : ∃ rx, Hid (rowI (M + 1) X = rx) := ⟨_, rfl⟩
  obtain ⟨ry, hry⟩ : ∃ ry, Hid (rowI (M + 1) Y = ry) := ⟨_, rfl⟩
  rw [hrx.out] at P1
  rw [hry.out] at P2
  have hlx : rx.length = M + 1 := by rw [← hrx.out]; exact rowI_len _ _
  have hly : ry.length = M + 1 := by rw [← hry.out]; exact rowI_len _ _
  have HLX := Lib.hid hlx
  have HLY := Lib.hid hly
  have bx := P1.b32
  have by_ := P2.b32
  clear hlx hly
  go_wp2_with fail
  go_loopg [39] (M + 1) (fun gg iv wr => ∃ (k : Nat) (o : List Nat), k ≤ M + 1 ∧ M + 1 - k = gg ∧ iv = .int .i64 (k : Int) ∧ OW wr (w.heap.size + 3) (some ⟨g1, 0, none⟩) (M + 1) o ∧ OW wr (w.heap.size + 3) (some ⟨g2, 0, none⟩) (M + 1) ry ∧
    Hid (o.length = M + 1 ∧ (∀ j, k ≤ j → wd o j = wd rx j) ∧ (∀ j, j < k → wd o j = 4294967295 - wd rx j)) ∧ RC wr (w.heap.size + 2) 6 ∧ Below w.heap.size w wr)
  case atStart => exact ⟨0, rx, Nat.zero_le _, rfl, rfl, P1, P2, Lib.hid ⟨HLX.out, fun _ _ => rfl, fun j hj => by omega⟩, RR, BB⟩
  case round =>
    obtain ⟨k, o, hk, rfl, rfl, Q1, Q2, hI, RR2, BB2⟩ := hrel
    by_cases hk0 : k < M + 1
    · obtain ⟨hol, hrest, hdone⟩ := hI.out
      have cx := Q1.cell (k := k) (by omega)
      rw [hrest k (Nat.le_refl _)] at cx
      have cy := Q2.cell (k := k) (by have := HLY.out; omega)
      have fx := Q1.frozen k
      have hxl := wd_lt bx k
      have hyl := wd_lt by_ k
      have hgl := (bitOp_not (wd rx k) (wd ry k) hxl hyl).1
      have hset := Q1.set k hgl
      have hl1 := Q1.lt.1
      have Q2' := Q2.far (p := ⟨g1, k, none⟩) (fun g' hA => by cases hA; show g2 ≠ g1; omega) (.int .u32 ((4294967295 - wd rx k : Nat) : Int))
      have RR2' := (RR2.sb.far (p := ⟨g1, k, none⟩) (by show w.heap.size + 2 ≠ g1; omega) (.int .u32 ((4294967295 - wd rx k : Nat) : Int))).rc (n := 6)
      have BB2' := BB2.setCell (p := ⟨g1, k, none⟩) (by show w.heap.size ≤ g1; omega) (.int .u32 ((4294967295 - wd rx k : Nat) : Int))
      have HI : Hid ((o.set k (4294967295 - wd rx k)).length = M + 1 ∧ (∀ j, k + 1 ≤ j → wd (o.set k (4294967295 - wd rx k)) j = wd rx j) ∧ (∀ j, j < k + 1 → wd (o.set k (4294967295 - wd rx k)) j = 4294967295 - wd rx j)) := by
        refine ⟨by rw [List.length_set]; exact hol, fun j hj => by rw [wd_set_ne (by omega)]; exact hrest j (by omega), fun j hj => ?_⟩
        by_cases e : j = k
        · subst e; exact wd_set_eq (by omega)
        · rw [wd_set_ne (by omega)]; exact hdone j (by omega)
      have hcl := fun (v : World) => (not1_any (wd rx k) (wd ry k) v hxl).mono (fun e (w' : World) (h : e = _ ∧ v = w') => (⟨h.1, h.2.symm⟩ : e = _ ∧ w' = v))
      clear hol hrest hdone hI bx by_
      go_wp2_with fail
      refine wp_region_still_tail 13 (by kernel_rfl) (by kernel_rfl) ?_
      simp only [List.take_succ_cons, List.take_zero, List.drop_succ_cons, List.drop_zero]
      repeat still_step
      still_call (hcl _)
      repeat still_step
      try refine wpStill_nil ?_
      go_wp2_with fail
      go_roundg (M + 1 - (k + 1))
      case measure => omega
      case rel => exact ⟨k + 1, _, by omega, rfl, by go_num, hset, Q2', HI, RR2', bdN BB2' 1⟩
    · obtain rfl : k = M + 1 := by omega
      have ho : o = List.zipWith (fun x _ => 4294967295 - x) rx ry := by
        obtain ⟨hol, hrest, hdone⟩ := hI.out
        have hzl : (List.zipWith (fun x _ => 4294967295 - x) rx ry).length = M + 1 := by rw [zip_len (by rw [HLX.out, HLY.out])]; exact HLX.out
        refine List.ext_getElem (by omega) (fun j h1 h2 => ?_)
        have e1 := hdone j (by omega)
        have e2 := zip_wd (g := (fun x _ => 4294967295 - x)) (a := rx) (b := ry) (by rw [HLX.out, HLY.out]) (k := j) (by rw [HLX.out]; omega)
        have e3 := e1.trans e2.symm
        unfold wd at e3
        rwa [List.getD_eq_getElem?_getD, List.getD_eq_getElem?_getD, List.getElem?_eq_getElem h1, List.getElem?_eq_getElem h2] at e3
      have hol := hI.out.1
      have hN := bnum_any g1 (M + 1) o wr (w.heap.size + 3) Q1 (by omega) (by omega) (by have := RR2.2; omega)
      have hval : Hid (tcI (32 * o.length) (val o) = rowOp (fun x _ => 4294967295 - x) (M + 1) X Y) := by
        show _ = _
        rw [hol, ho, ← hrx.out, ← hry.out]; rfl
      rw [hval.out, hol] at hN
      clear hol ho hI hval hk0
      obtain ⟨R, hR⟩ : ∃ R, Hid (fitQ ((rowOp (fun x _ => 4294967295 - x) (M + 1) X Y : Int) : Rat) 0 = R) := ⟨_, rfl⟩
      rw [hR.out] at hN
      obtain ⟨fr, fi, fk⟩ := R
      go_wp2_with fail
      refine hN.mono ?_; rintro e w5 ⟨H1, h1, I1, i1, H2, h2, I2, i2, rfl, O1, O2, O3, O4, B5⟩
      dsimp only at O1 O2 O3 O4
      have hRC := (RR2.sb.below B5 (by omega)).rc (n := 6)
      have BB5 := BB2.trans (B5.mono (by omega))
      go_wp2_with (refine wp_st6 rfl (.tmp 6) (.tmp 58) rfl _ rfl _ _ _ _ _ _ rfl hRC rfl rfl rfl rfl rfl rfl ?_)
      have s6 := hRC.put6 (.bool fr.s) (.slice H1 fr.a.length h1) (.slice I1 fr.b.length i1) (.bool fi.s) (.slice H2 fi.a.length h2) (.slice I2 fi.b.length i2)
      have B6 := wr6_below (b := w.heap.size + 2) BB5 (by omega) (.bool fr.s) (.slice H1 fr.a.length h1) (.slice I1 fr.b.length i1) (.bool fi.s) (.slice H2 fi.a.length h2) (.slice I2 fi.b.length i2)
      have Oa := O1.put6 (b := w.heap.size + 2) (by omega) (.bool fr.s) (.slice H1 fr.a.length h1) (.slice I1 fr.b.length i1) (.bool fi.s) (.slice H2 fi.a.length h2) (.slice I2 fi.b.length i2)
      have Ob := O2.put6 (b := w.heap.size + 2) (by omega) (.bool fr.s) (.slice H1 fr.a.length h1) (.slice I1 fr.b.length i1) (.bool fi.s) (.slice H2 fi.a.length h2) (.slice I2 fi.b.length i2)
      have Oc := O3.put6 (b := w.heap.size + 2) (by omega) (.bool fr.s) (.slice H1 fr.a.length h1) (.slice I1 fr.b.length i1) (.bool fi.s) (.slice H2 fi.a.length h2) (.slice I2 fi.b.length i2)
      have Od := O4.put6 (b := w.heap.size + 2) (by omega) (.bool fr.s) (.slice H1 fr.a.length h1) (.slice I1 fr.b.length i1) (.bool fi.s) (.slice H2 fi.a.length h2) (.slice I2 fi.b.length i2)
      have r0' := s6.cell 0
      have r1' := s6.cell 1
      have r2' := s6.cell 2
      have r3' := s6.cell 3
      have r4' := s6.cell 4
      have r5' := s6.cell 5
      refine bodyPost_ret (v := .tuple #[.agg #[.bool fr.s, .slice H1 fr.a.length h1, .slice I1 fr.b.length i1, .bool fi.s, .slice H2 fi.a.length h2, .slice I2 fi.b.length i2], .int .i64 fk]) (by simp [results, r0', r1', r2', r3', r4', r5', go_sem]) rfl ?_
      rw [hR.out]
      exact ⟨H1, h1, I1, i1, H2, h2, I2, i2, rfl, Oa.base_le (by omega), Ob.base_le (by omega), Oc.base_le (by omega), Od.base_le (by omega), B6⟩

end Go.Proofs.Ytnlgoedklmjhlaa
namespace Go.Proofs.Ytnlgoedklmjhlaa
open Go.RowKit

/-- a whole number's value -/
def iv (r : Rw) : Int := sgn r.s (val r.a)
theorem wB_rw {r i : Rw} (h : wB r i = true) : r = rwq ((iv r : Int) : Rat) ∧ i = rwq 0 ∧ r.a.length ≤ 512 := by
  obtain ⟨h1, h2, h3, h4, h5⟩ := wB_int h
  refine ⟨?_, by rw [h3, rwq_z'], h5⟩
  unfold iv
  rw [rwq_int _ _ h4, ← h1, ← h2]
theorem bchk2_zero {r i r2 i2 : Rw} (h : bchkN2 r i r2 i2 = 0) : wB r i = true ∧ wB r2 i2 = true := by
  unfold bchkN2 at h
  split at h
  · split at h
    · assumption
    · cases h
  · cases h
theorem bchk1_zero {r i : Rw} (h : bchkN1 r i = 0) : wB r i = true := by
  unfold bchkN1 at h
  split at h
  · split at h
    · assumption
    · cases h
  · cases h
/-- an operation's answer -/
def qbothA (g : Nat → Nat → Nat) (r i r2 i2 : Rw) : Rw × Rw × Int :=
  if bchkN2 r i r2 i2 = 0 then fitQ ((rowOp g (max r.a.length r2.a.length + 1) (iv r) (iv r2) : Int) : Rat) 0 else (rw0, rw0, bchkN2 r i r2 i2)

theorem each_And (V U : Value) (r i r2 i2 : Rw) (w : World) (hV : VN w w.heap.size V r i) (hU : VN w w.heap.size U r2 i2) :
    Calls Try.prog 32 #[V, U, .func (.func 33) #[] #[]] w (RetNE w (qbothA (· &&& ·) r i r2 i2)) := by
  obtain ⟨A1, c1, D1, d1, A2, c2, D2, d2, rfl, p1, p2, p3, p4⟩ := hV
  obtain ⟨E1, j1, F1, k1, E2, j2, F2, k2, rfl, q1, q2, q3, q4⟩ := hU
  unfold qbothA
  by_cases hk : bchkN2 r i r2 i2 = 0
  · rw [if_pos hk]
    obtain ⟨y1, y2⟩ := bchk2_zero hk
    obtain ⟨x1, x2, x3⟩ := wB_rw y1
    obtain ⟨z1, z2, z3⟩ := wB_rw y2
    exact each_ok_And r.s i.s r2.s i2.s r.a r.b i.a i.b r2.a r2.b i2.a i2.b A1 D1 A2 D2 E1 F1 E2 F2 c1 d1 c2 d2 j1 k1 j2 k2 w p1 p2 p3 p4 q1 q2 q3 q4 (iv r) (iv r2) (Lib.hid ⟨x1, x2⟩) (Lib.hid ⟨z1, z2⟩) x3 z3 hk
  · rw [if_neg hk]
    exact each_bad_And r.s i.s r2.s i2.s r.a r.b i.a i.b r2.a r2.b i2.a i2.b A1 D1 A2 D2 E1 F1 E2 F2 c1 d1 c2 d2 j1 k1 j2 k2 w p1 p2 p3 p4 q1 q2 q3 q4 _ rfl (beq_eq_false_iff_ne.2 hk)

set_option maxRecDepth 100000 in
set_option maxHeartbeats 8000000 in
theorem band_any (V U : Value) (r i r2 i2 : Rw) (w : World) (hV : VN w w.heap.size V r i) (hU : VN w w.heap.size U r2 i2) :
    Calls Try.prog 8 #[V, U] w (RetNE w (qbothA (· &&& ·) r i r2 i2)) := by
  obtain ⟨A1, c1, D1, d1, A2, c2, D2, d2, rfl, p1, p2, p3, p4⟩ := hV
  obtain ⟨E1, j1, F1, k1, E2, j2, F2, k2, rfl, q1, q2, q3, q4⟩ := hU
  have kk := S3.new w [.bool r.s, .slice A1 r.a.length c1, .slice D1 r.b.length d1, .bool i.s, .slice A2 i.a.length c2, .slice D2 i.b.length d2] [.bool r2.s, .slice E1 r2.a.length j1, .slice F1 r2.b.length k1, .bool i2.s, .slice E2 i2.a.length j2, .slice F2 i2.b.length k2] [.bool false, .slice none 0 0, .slice none 0 0, .bool false, .slice none 0 0, .slice none 0 0] 26 26 26 6
  have BW := kk.2.2.2
  have RR := kk.2.2.1
  have m0 := kk.1.cell 0
  have m1 := kk.1.cell 1
  have m2 := kk.1.cell 2
  have m3 := kk.1.cell 3
  have m4 := kk.1.cell 4
  have m5 := kk.1.cell 5
  have n0 := kk.2.1.cell 0
  have n1 := kk.2.1.cell 1
  have n2 := kk.2.1.cell 2
  have n3 := kk.2.1.cell 3
  have n4 := kk.2.1.cell 4
  have n5 := kk.2.1.cell 5
  have hE := each_And _ _ r i r2 i2 _ (vns p1 p2 p3 p4 BW) (vns q1 q2 q3 q4 BW)
  obtain ⟨R, hR⟩ : ∃ R, Hid (qbothA (· &&& ·) r i r2 i2 = R) := ⟨_, rfl⟩
  rw [hR.out] at hE ⊢
  obtain ⟨fr, fi, fk⟩ := R
  go_enter Try.func8, Try.ntmps8
  go_wp2_with fail
  refine hE.mono ?_; rintro e w5 ⟨H1, h1, I1, i1, H2, h2, I2, i2_, rfl, O1, O2, O3, O4, B5⟩
  clear m0 m1 m2 m3 m4 m5 n0 n1 n2 n3 n4 n5
  dsimp only at O1 O2 O3 O4
  have hRC := RR.nx B5
  have BB5 := bt BW B5
  have hz := RR.2
  go_wp2_with (refine wp_st6 rfl (.tmp 4) (.tmp 9) rfl _ rfl _ _ _ _ _ _ rfl hRC rfl rfl rfl rfl rfl rfl ?_)
  have s6 := hRC.put6 (.bool fr.s) (.slice H1 fr.a.length h1) (.slice I1 fr.b.length i1) (.bool fi.s) (.slice H2 fi.a.length h2) (.slice I2 fi.b.length i2_)
  have B6 := wr6_below (b := w.heap.size + 2) BB5 (by omega) (.bool fr.s) (.slice H1 fr.a.length h1) (.slice I1 fr.b.length i1) (.bool fi.s) (.slice H2 fi.a.length h2) (.slice I2 fi.b.length i2_)
  have Oa := O1.put6 (b := w.heap.size + 2) hz (.bool fr.s) (.slice H1 fr.a.length h1) (.slice I1 fr.b.length i1) (.bool fi.s) (.slice H2 fi.a.length h2) (.slice I2 fi.b.length i2_)
  have Ob := O2.put6 (b := w.heap.size + 2) hz (.bool fr.s) (.slice H1 fr.a.length h1) (.slice I1 fr.b.length i1) (.bool fi.s) (.slice H2 fi.a.length h2) (.slice I2 fi.b.length i2_)
  have Oc := O3.put6 (b := w.heap.size + 2) hz (.bool fr.s) (.slice H1 fr.a.length h1) (.slice I1 fr.b.length i1) (.bool fi.s) (.slice H2 fi.a.length h2) (.slice I2 fi.b.length i2_)
  have Od := O4.put6 (b := w.heap.size + 2) hz (.bool fr.s) (.slice H1 fr.a.length h1) (.slice I1 fr.b.length i1) (.bool fi.s) (.slice H2 fi.a.length h2) (.slice I2 fi.b.length i2_)
  have r0' := s6.cell 0
  have r1' := s6.cell 1
  have r2' := s6.cell 2
  have r3' := s6.cell 3
  have r4' := s6.cell 4
  have r5' := s6.cell 5
  refine bodyPost_ret (v := .tuple #[.agg #[.bool fr.s, .slice H1 fr.a.length h1, .slice I1 fr.b.length i1, .bool fi.s, .slice H2 fi.a.length h2, .slice I2 fi.b.length i2_], .int .i64 fk]) (by simp [results, r0', r1', r2', r3', r4', r5', go_sem]) rfl ?_
  have hle := BW.size
  exact ⟨H1, h1, I1, i1, H2, h2, I2, i2_, rfl, Oa.base_le hle, Ob.base_le hle, Oc.base_le hle, Od.base_le hle, B6⟩

theorem each_Or (V U : Value) (r i r2 i2 : Rw) (w : World) (hV : VN w w.heap.size V r i) (hU : VN w w.heap.size U r2 i2) :
    Calls Try.prog 32 #[V, U, .func (.func 37) #[] #[]] w (RetNE w (qbothA (· ||| ·) r i r2 i2)) := by
  obtain ⟨A1, c1, D1, d1, A2, c2, D2, d2, rfl, p1, p2, p3, p4⟩ := hV
  obtain ⟨E1, j1, F1, k1, E2, j2, F2, k2, rfl, q1, q2, q3, q4⟩ := hU
  unfold qbothA
  by_cases hk : bchkN2 r i r2 i2 = 0
  · rw [if_pos hk]
    obtain ⟨y1, y2⟩ := bchk2_zero hk
    obtain ⟨x1, x2, x3⟩ := wB_rw y1
    obtain ⟨z1, z2, z3⟩ := wB_rw y2
    exact each_ok_Or r.s i.s r2.s i2.s r.a r.b i.a i.b r2.a r2.b i2.a i2.b A1 D1 A2 D2 E1 F1 E2 F2 c1 d1 c2 d2 j1 k1 j2 k2 w p1 p2 p3 p4 q1 q2 q3 q4 (iv r) (iv r2) (Lib.hid ⟨x1, x2⟩) (Lib.hid ⟨z1, z2⟩) x3 z3 hk
  · rw [if_neg hk]
    exact each_bad_Or r.s i.s r2.s i2.s r.a r.b i.a i.b r2.a r2.b i2.a i2.b A1 D1 A2 D2 E1 F1 E2 F2 c1 d1 c2 d2 j1 k1 j2 k2 w p1 p2 p3 p4 q1 q2 q3 q4 _ rfl (beq_eq_false_iff_ne.2 hk)

set_option maxRecDepth 100000 in
set_option maxHeartbeats 8000000 in
theorem bor_any (V U : Value) (r i r2 i2 : Rw) (w : World) (hV : VN w w.heap.size V r i) (hU : VN w w.heap.size U r2 i2) :
    Calls Try.prog 10 #[V, U] w (RetNE w (qbothA (· ||| ·) r i r2 i2)) := by
  obtain ⟨A1, c1, D1, d1, A2, c2, D2, d2, rfl, p1, p2, p3, p4⟩ := hV
  obtain ⟨E1, j1, F1, k1, E2, j2, F2, k2, rfl, q1, q2, q3, q4⟩ := hU
  have kk := S3.new w [.bool r.s, .slice A1 r.a.length c1, .slice D1 r.b.length d1, .bool i.s, .slice A2 i.a.length c2, .slice D2 i.b.length d2] [.bool r2.s, .slice E1 r2.a.length j1, .slice F1 r2.b.length k1, .bool i2.s, .slice E2 i2.a.length j2, .slice F2 i2.b.length k2] [.bool false, .slice none 0 0, .slice none 0 0, .bool false, .slice none 0 0, .slice none 0 0] 26 26 26 6
  have BW := kk.2.2.2
  have RR := kk.2.2.1
  have m0 := kk.1.cell 0
  have m1 := kk.1.cell 1
  have m2 := kk.1.cell 2
  have m3 := kk.1.cell 3
  have m4 := kk.1.cell 4
  have m5 := kk.1.cell 5
  have n0 := kk.2.1.cell 0
  have n1 := kk.2.1.cell 1
  have n2 := kk.2.1.cell 2
  have n3 := kk.2.1.cell 3
  have n4 := kk.2.1.cell 4
  have n5 := kk.2.1.cell 5
  have hE := each_Or _ _ r i r2 i2 _ (vns p1 p2 p3 p4 BW) (vns q1 q2 q3 q4 BW)
  obtain ⟨R, hR⟩ : ∃ R, Hid (qbothA (· ||| ·) r i r2 i2 = R) := ⟨_, rfl⟩
  rw [hR.out] at hE ⊢
  obtain ⟨fr, fi, fk⟩ := R
  go_enter Try.func10, Try.ntmps10
  go_wp2_with fail
  refine hE.mono ?_; rintro e w5 ⟨H1, h1, I1, i1, H2, h2, I2, i2_, rfl, O1, O2, O3, O4, B5⟩
  clear m0 m1 m2 m3 m4 m5 n0 n1 n2 n3 n4 n5
  dsimp only at O1 O2 O3 O4
  have hRC := RR.nx B5
  have BB5 := bt BW B5
  have hz := RR.2
  go_wp2_with (refine wp_st6 rfl (.tmp 4) (.tmp 9) rfl _ rfl _ _ _ _ _ _ rfl hRC rfl rfl rfl rfl rfl rfl ?_)
  have s6 := hRC.put6 (.bool fr.s) (.slice H1 fr.a.length h1) (.slice I1 fr.b.length i1) (.bool fi.s) (.slice H2 fi.a.length h2) (.slice I2 fi.b.length i2_)
  have B6 := wr6_below (b := w.heap.size + 2) BB5 (by omega) (.bool fr.s) (.slice H1 fr.a.length h1) (.slice I1 fr.b.length i1) (.bool fi.s) (.slice H2 fi.a.length h2) (.slice I2 fi.b.length i2_)
  have Oa := O1.put6 (b := w.heap.size + 2) hz (.bool fr.s) (.slice H1 fr.a.length h1) (.slice I1 fr.b.length i1) (.bool fi.s) (.slice H2 fi.a.length h2) (.slice I2 fi.b.length i2_)
  have Ob := O2.put6 (b := w.heap.size + 2) hz (.bool fr.s) (.slice H1 fr.a.length h1) (.slice I1 fr.b.length i1) (.bool fi.s) (.slice H2 fi.a.length h2) (.slice I2 fi.b.length i2_)
  have Oc := O3.put6 (b := w.heap.size + 2) hz (.bool fr.s) (.slice H1 fr.a.length h1) (.slice I1 fr.b.length i1) (.bool fi.s) (.slice H2 fi.a.length h2) (.slice I2 fi.b.length i2_)
  have Od := O4.put6 (b := w.heap.size + 2) hz (.bool fr.s) (.slice H1 fr.a.length h1) (.slice I1 fr.b.length i1) (.bool fi.s) (.slice H2 fi.a.length h2) (.slice I2 fi.b.length i2_)
  have r0' := s6.cell 0
  have r1' := s6.cell 1
  have r2' := s6.cell 2
  have r3' := s6.cell 3
  have r4' := s6.cell 4
  have r5' := s6.cell 5
  refine bodyPost_ret (v := .tuple #[.agg #[.bool fr.s, .slice H1 fr.a.length h1, .slice I1 fr.b.length i1, .bool fi.s, .slice H2 fi.a.length h2, .slice I2 fi.b.length i2_], .int .i64 fk]) (by simp [results, r0', r1', r2', r3', r4', r5', go_sem]) rfl ?_
  have hle := BW.size
  exact ⟨H1, h1, I1, i1, H2, h2, I2, i2_, rfl, Oa.base_le hle, Ob.base_le hle, Oc.base_le hle, Od.base_le hle, B6⟩

theorem each_Xor (V U : Value) (r i r2 i2 : Rw) (w : World) (hV : VN w w.heap.size V r i) (hU : VN w w.heap.size U r2 i2) :
    Calls Try.prog 32 #[V, U, .func (.func 38) #[] #[]] w (RetNE w (qbothA (· ^^^ ·) r i r2 i2)) := by
  obtain ⟨A1, c1, D1, d1, A2, c2, D2, d2, rfl, p1, p2, p3, p4⟩ := hV
  obtain ⟨E1, j1, F1, k1, E2, j2, F2, k2, rfl, q1, q2, q3, q4⟩ := hU
  unfold qbothA
  by_cases hk : bchkN2 r i r2 i2 = 0
  · rw [if_pos hk]
    obtain ⟨y1, y2⟩ := bchk2_zero hk
    obtain ⟨x1, x2, x3⟩ := wB_rw y1
    obtain ⟨z1, z2, z3⟩ := wB_rw y2
    exact each_ok_Xor r.s i.s r2.s i2.s r.a r.b i.a i.b r2.a r2.b i2.a i2.b A1 D1 A2 D2 E1 F1 E2 F2 c1 d1 c2 d2 j1 k1 j2 k2 w p1 p2 p3 p4 q1 q2 q3 q4 (iv r) (iv r2) (Lib.hid ⟨x1, x2⟩) (Lib.hid ⟨z1, z2⟩) x3 z3 hk
  · rw [if_neg hk]
    exact each_bad_Xor r.s i.s r2.s i2.s r.a r.b i.a i.b r2.a r2.b i2.a i2.b A1 D1 A2 D2 E1 F1 E2 F2 c1 d1 c2 d2 j1 k1 j2 k2 w p1 p2 p3 p4 q1 q2 q3 q4 _ rfl (beq_eq_false_iff_ne.2 hk)

set_option maxRecDepth 100000 in
set_option maxHeartbeats 8000000 in
theorem bxor_any (V U : Value) (r i r2 i2 : Rw) (w : World) (hV : VN w w.heap.size V r i) (hU : VN w w.heap.size U r2 i2) :
    Calls Try.prog 11 #[V, U] w (RetNE w (qbothA (· ^^^ ·) r i r2 i2)) := by
  obtain ⟨A1, c1, D1, d1, A2, c2, D2, d2, rfl, p1, p2, p3, p4⟩ := hV
  obtain ⟨E1, j1, F1, k1, E2, j2, F2, k2, rfl, q1, q2, q3, q4⟩ := hU
  have kk := S3.new w [.bool r.s, .slice A1 r.a.length c1, .slice D1 r.b.length d1, .bool i.s, .slice A2 i.a.length c2, .slice D2 i.b.length d2] [.bool r2.s, .slice E1 r2.a.length j1, .slice F1 r2.b.length k1, .bool i2.s, .slice E2 i2.a.length j2, .slice F2 i2.b.length k2] [.bool false, .slice none 0 0, .slice none 0 0, .bool false, .slice none 0 0, .slice none 0 0] 26 26 26 6
  have BW := kk.2.2.2
  have RR := kk.2.2.1
  have m0 := kk.1.cell 0
  have m1 := kk.1.cell 1
  have m2 := kk.1.cell 2
  have m3 := kk.1.cell 3
  have m4 := kk.1.cell 4
  have m5 := kk.1.cell 5
  have n0 := kk.2.1.cell 0
  have n1 := kk.2.1.cell 1
  have n2 := kk.2.1.cell 2
  have n3 := kk.2.1.cell 3
  have n4 := kk.2.1.cell 4
  have n5 := kk.2.1.cell 5
  have hE := each_Xor _ _ r i r2 i2 _ (vns p1 p2 p3 p4 BW) (vns q1 q2 q3 q4 BW)
  obtain ⟨R, hR⟩ : ∃ R, Hid (qbothA (· ^^^ ·) r i r2 i2 = R) := ⟨_, rfl⟩
  rw [hR.out] at hE ⊢
  obtain ⟨fr, fi, fk⟩ := R
  go_enter Try.func11, Try.ntmps11
  go_wp2_with fail
  refine hE.mono ?_; rintro e w5 ⟨H1, h1, I1, i1, H2, h2, I2, i2_, rfl, O1, O2, O3, O4, B5⟩
  clear m0 m1 m2 m3 m4 m5 n0 n1 n2 n3 n4 n5
  dsimp only at O1 O2 O3 O4
  have hRC := RR.nx B5
  have BB5 := bt BW B5
  have hz := RR.2
  go_wp2_with (refine wp_st6 rfl (.tmp 4) (.tmp 9) rfl _ rfl _ _ _ _ _ _ rfl hRC rfl rfl rfl rfl rfl rfl ?_)
  have s6 := hRC.put6 (.bool fr.s) (.slice H1 fr.a.length h1) (.slice I1 fr.b.length i1) (.bool fi.s) (.slice H2 fi.a.length h2) (.slice I2 fi.b.length i2_)
  have B6 := wr6_below (b := w.heap.size + 2) BB5 (by omega) (.bool fr.s) (.slice H1 fr.a.length h1) (.slice I1 fr.b.length i1) (.bool fi.s) (.slice H2 fi.a.length h2) (.slice I2 fi.b.length i2_)
  have Oa := O1.put6 (b := w.heap.size + 2) hz (.bool fr.s) (.slice H1 fr.a.length h1) (.slice I1 fr.b.length i1) (.bool fi.s) (.slice H2 fi.a.length h2) (.slice I2 fi.b.length i2_)
  have Ob := O2.put6 (b := w.heap.size + 2) hz (.bool fr.s) (.slice H1 fr.a.length h1) (.slice I1 fr.b.length i1) (.bool fi.s) (.slice H2 fi.a.length h2) (.slice I2 fi.b.length i2_)
  have Oc := O3.put6 (b := w.heap.size + 2) hz (.bool fr.s) (.slice H1 fr.a.length h1) (.slice I1 fr.b.length i1) (.bool fi.s) (.slice H2 fi.a.length h2) (.slice I2 fi.b.length i2_)
  have Od := O4.put6 (b := w.heap.size + 2) hz (.bool fr.s) (.slice H1 fr.a.length h1) (.slice I1 fr.b.length i1) (.bool fi.s) (.slice H2 fi.a.length h2) (.slice I2 fi.b.length i2_)
  have r0' := s6.cell 0
  have r1' := s6.cell 1
  have r2' := s6.cell 2
  have r3' := s6.cell 3
  have r4' := s6.cell 4
  have r5' := s6.cell 5
  refine bodyPost_ret (v := .tuple #[.agg #[.bool fr.s, .slice H1 fr.a.length h1, .slice I1 fr.b.length i1, .bool fi.s, .slice H2 fi.a.length h2, .slice I2 fi.b.length i2_], .int .i64 fk]) (by simp [results, r0', r1', r2', r3', r4', r5', go_sem]) rfl ?_
  have hle := BW.size
  exact ⟨H1, h1, I1, i1, H2, h2, I2, i2_, rfl, Oa.base_le hle, Ob.base_le hle, Oc.base_le hle, Od.base_le hle, B6⟩

theorem each_Not (V U : Value) (r i r2 i2 : Rw) (w : World) (hV : VN w w.heap.size V r i) (hU : VN w w.heap.size U r2 i2) :
    Calls Try.prog 32 #[V, U, .func (.func 39) #[] #[]] w (RetNE w (qbothA (fun x _ => 4294967295 - x) r i r2 i2)) := by
  obtain ⟨A1, c1, D1, d1, A2, c2, D2, d2, rfl, p1, p2, p3, p4⟩ := hV
  obtain ⟨E1, j1, F1, k1, E2, j2, F2, k2, rfl, q1, q2, q3, q4⟩ := hU
  unfold qbothA
  by_cases hk : bchkN2 r i r2 i2 = 0
  · rw [if_pos hk]
    obtain ⟨y1, y2⟩ := bchk2_zero hk
    obtain ⟨x1, x2, x3⟩ := wB_rw y1
    obtain ⟨z1, z2, z3⟩ := wB_rw y2
    exact each_ok_Not r.s i.s r2.s i2.s r.a r.b i.a i.b r2.a r2.b i2.a i2.b A1 D1 A2 D2 E1 F1 E2 F2 c1 d1 c2 d2 j1 k1 j2 k2 w p1 p2 p3 p4 q1 q2 q3 q4 (iv r) (iv r2) (Lib.hid ⟨x1, x2⟩) (Lib.hid ⟨z1, z2⟩) x3 z3 hk
  · rw [if_neg hk]
    exact each_bad_Not r.s i.s r2.s i2.s r.a r.b i.a i.b r2.a r2.b i2.a i2.b A1 D1 A2 D2 E1 F1 E2 F2 c1 d1 c2 d2 j1 k1 j2 k2 w p1 p2 p3 p4 q1 q2 q3 q4 _ rfl (beq_eq_false_iff_ne.2 hk)

set_option maxRecDepth 100000 in
set_option maxHeartbeats 8000000 in
theorem bnot_any (V : Value) (r i : Rw) (w : World) (hV : VN w w.heap.size V r i) :
    Calls Try.prog 12 #[V] w (RetNE w (qbothA (fun x _ => 4294967295 - x) r i r i)) := by
  obtain ⟨A1, c1, D1, d1, A2, c2, D2, d2, rfl, p1, p2, p3, p4⟩ := hV
  have kk := S2.new w [.bool r.s, .slice A1 r.a.length c1, .slice D1 r.b.length d1, .bool i.s, .slice A2 i.a.length c2, .slice D2 i.b.length d2] [.bool false, .slice none 0 0, .slice none 0 0, .bool false, .slice none 0 0, .slice none 0 0] 26 26 6
  have BW := kk.2.2
  have RR := kk.2.1
  have m0 := kk.1.cell 0
  have m1 := kk.1.cell 1
  have m2 := kk.1.cell 2
  have m3 := kk.1.cell 3
  have m4 := kk.1.cell 4
  have m5 := kk.1.cell 5
  have hE := each_Not _ _ r i r i _ (vns p1 p2 p3 p4 BW) (vns p1 p2 p3 p4 BW)
  obtain ⟨R, hR⟩ : ∃ R, Hid (qbothA (fun x _ => 4294967295 - x) r i r i = R) := ⟨_, rfl⟩
  rw [hR.out] at hE ⊢
  obtain ⟨fr, fi, fk⟩ := R
  go_enter Try.func12, Try.ntmps12
  go_wp2_with fail
  refine hE.mono ?_; rintro e w5 ⟨H1, h1, I1, i1, H2, h2, I2, i2_, rfl, O1, O2, O3, O4, B5⟩
  clear m0 m1 m2 m3 m4 m5
  dsimp only at O1 O2 O3 O4
  have hRC := RR.nx B5
  have BB5 := bt BW B5
  have hz := RR.2
  go_wp2_with (refine wp_st6 rfl (.tmp 2) (.tmp 7) rfl _ rfl _ _ _ _ _ _ rfl hRC rfl rfl rfl rfl rfl rfl ?_)
  have s6 := hRC.put6 (.bool fr.s) (.slice H1 fr.a.length h1) (.slice I1 fr.b.length i1) (.bool fi.s) (.slice H2 fi.a.length h2) (.slice I2 fi.b.length i2_)
  have B6 := wr6_below (b := w.heap.size + 1) BB5 (by omega) (.bool fr.s) (.slice H1 fr.a.length h1) (.slice I1 fr.b.length i1) (.bool fi.s) (.slice H2 fi.a.length h2) (.slice I2 fi.b.length i2_)
  have Oa := O1.put6 (b := w.heap.size + 1) hz (.bool fr.s) (.slice H1 fr.a.length h1) (.slice I1 fr.b.length i1) (.bool fi.s) (.slice H2 fi.a.length h2) (.slice I2 fi.b.length i2_)
  have Ob := O2.put6 (b := w.heap.size + 1) hz (.bool fr.s) (.slice H1 fr.a.length h1) (.slice I1 fr.b.length i1) (.bool fi.s) (.slice H2 fi.a.length h2) (.slice I2 fi.b.length i2_)
  have Oc := O3.put6 (b := w.heap.size + 1) hz (.bool fr.s) (.slice H1 fr.a.length h1) (.slice I1 fr.b.length i1) (.bool fi.s) (.slice H2 fi.a.length h2) (.slice I2 fi.b.length i2_)
  have Od := O4.put6 (b := w.heap.size + 1) hz (.bool fr.s) (.slice H1 fr.a.length h1) (.slice I1 fr.b.length i1) (.bool fi.s) (.slice H2 fi.a.length h2) (.slice I2 fi.b.length i2_)
  have r0' := s6.cell 0
  have r1' := s6.cell 1
  have r2' := s6.cell 2
  have r3' := s6.cell 3
  have r4' := s6.cell 4
  have r5' := s6.cell 5
  refine bodyPost_ret (v := .tuple #[.agg #[.bool fr.s, .slice H1 fr.a.length h1, .slice I1 fr.b.length i1, .bool fi.s, .slice H2 fi.a.length h2, .slice I2 fi.b.length i2_], .int .i64 fk]) (by simp [results, r0', r1', r2', r3', r4', r5', go_sem]) rfl ?_
  have hle := BW.size
  exact ⟨H1, h1, I1, i1, H2, h2, I2, i2_, rfl, Oa.base_le hle, Ob.base_le hle, Oc.base_le hle, Od.base_le hle, B6⟩

end Go.Proofs.Ytnlgoedklmjhlaa
