/- Merged texts: ExA, RatU, RatF, RatI, ExT. -/
import Derived.Test.YtbgggepdlkbpoaaGreatDoorGG
import Derived.Test.YtbgggepdlkbpoaaGreatDoorGB
import Derived.Laws.Bits64
namespace Go.Proofs.YtbgggepdlkbpoaaGreatDoor
open Go.RowKit

/-- the error of one argument, of two -/
def chkN1 (real : Bool) (r i : Rw) : Int := if nB r i = true then (if real = true ∧ 0 < i.a.length then 10 else 0) else 2
def chkN2 (real : Bool) (r i r' i' : Rw) : Int := if nB r i = true ∧ nB r' i' = true then (if real = true ∧ (0 < i.a.length ∨ 0 < i'.a.length) then 10 else 0) else 2


set_option maxHeartbeats 8000000 in
theorem check1x_any (real : Bool) (g : Nat) (s11 : Bool) (a11 b11 : List Nat) (s12 : Bool) (a12 b12 : List Nat) (A11 : Option Addr) (c11 : Nat) (D11 : Option Addr) (d11 : Nat) (A12 : Option Addr) (c12 : Nat) (D12 : Option Addr) (d12 : Nat) (w : World) (hg : SB w g [.bool s11, .slice A11 a11.length c11, .slice D11 b11.length d11, .bool s12, .slice A12 a12.length c12, .slice D12 b12.length d12]) (r11 : RW w w.heap.size A11 c11 a11) (r12 : RW w w.heap.size D11 d11 b11) (r13 : RW w w.heap.size A12 c12 a12) (r14 : RW w w.heap.size D12 d12 b12) :
    Calls Tryz.prog 32 #[.bool real, .slice (some ⟨g, 0, none⟩) 1 1] w fun e w' => e = .returned (.int .i64 (chkN1 real ⟨s11, a11, b11⟩ ⟨s12, a12, b12⟩)) ∧ Below w.heap.size w w' := by
  have h1 := fun w' B => esound_any (.agg #[.bool s11, .slice A11 a11.length c11, .slice D11 b11.length d11, .bool s12, .slice A12 a12.length c12, .slice D12 b12.length d12]) ⟨s11, a11, b11⟩ ⟨s12, a12, b12⟩ w' (vns r11 r12 r13 r14 B)
  obtain ⟨n1, hn1⟩ : ∃ z, Hid (nB ⟨s11, a11, b11⟩ ⟨s12, a12, b12⟩ = z) := ⟨_, rfl⟩
  simp only [hn1.out] at h1
  have hval : Hid (chkN1 real ⟨s11, a11, b11⟩ ⟨s12, a12, b12⟩ = if n1 = true then (if real = true ∧ 0 < a12.length then 10 else 0) else 2) := by
    show _ = _
    unfold chkN1
    rw [hn1.out]
  obtain ⟨ans, hans⟩ : ∃ z : Int, Hid (chkN1 real ⟨s11, a11, b11⟩ ⟨s12, a12, b12⟩ = z) := ⟨_, rfl⟩
  rw [hans.out]
  go_enter Tryz.func32, Tryz.ntmps32
  go_wp2_with fail
  go_loopg [11] 1 (fun gg iv wr => ∃ k : Nat, k ≤ 1 ∧ 1 - k = gg ∧ iv = .int .i64 (k : Int) ∧ (1 ≤ k → n1 = true) ∧ Below w.heap.size w wr)
  case atStart => exact ⟨0, by omega, rfl, rfl, by intro h; omega, Below.refl _ _⟩
  case round =>
    obtain ⟨k, hk, rfl, rfl, q1, Bl⟩ := hrel
    by_cases h0 : k < 1
    · obtain rfl : k = 0 := by omega
      · have G := hg.nx Bl
        have m0 := G.cell 0
        have m1 := G.cell 1
        have m2 := G.cell 2
        have m3 := G.cell 3
        have m4 := G.cell 4
        have m5 := G.cell 5
        have Bn := bal wr (.cells #[.bool s11, .slice A11 a11.length c11, .slice D11 b11.length d11, .bool s12, .slice A12 a12.length c12, .slice D12 b12.length d12] 26)
        cases n1 with
        | false =>
          go_wp2_with fail
          refine (h1 _ (bt Bl Bn)).mono ?_; rintro e w3 ⟨rfl, B3⟩
          go_wp2_with fail
          go_ret
          exact ⟨by rw [← hans.out, hval.out, if_neg (by simp)]; rfl, bt (bt Bl Bn) B3⟩
        | true =>
          go_wp2_with fail
          refine (h1 _ (bt Bl Bn)).mono ?_; rintro e w3 ⟨rfl, B3⟩
          go_wp2_with fail
          go_roundg 0
          case measure => omega
          case rel => exact ⟨1, by omega, rfl, rfl, fun _ => by trivial, bt (bt Bl Bn) B3⟩
    · obtain rfl : k = 1 := by omega
      have t1 := q1 (by omega)
      subst t1
      clear q1 h0
      have hval2 : Hid (ans = if real = true ∧ 0 < a12.length then 10 else 0) := by show _ = _; rw [← hans.out, hval.out, if_pos rfl]
      clear hval
      go_wp2_with fail
      go_loopg [21] 1 (fun gg iv ww => ∃ k : Nat, k ≤ 1 ∧ 1 - k = gg ∧ iv = .int .i64 (k : Int) ∧ (1 ≤ k → ¬ (real = true ∧ 0 < a12.length)) ∧ Below w.heap.size w ww)
      case atStart => exact ⟨0, by omega, rfl, rfl, by intro h; omega, Bl⟩
      case round =>
        obtain ⟨k, hk, rfl, rfl, q1, Bm⟩ := hrel
        by_cases h0 : k < 1
        · obtain rfl : k = 0 := by omega
          · have G := hg.nx Bm
            have m0 := G.cell 0
            have m1 := G.cell 1
            have m2 := G.cell 2
            have m3 := G.cell 3
            have m4 := G.cell 4
            have m5 := G.cell 5
            have Bn := bal wr (.cells #[.bool s11, .slice A11 a11.length c11, .slice D11 b11.length d11, .bool s12, .slice A12 a12.length c12, .slice D12 b12.length d12] 26)
            cases real with
            | false =>
              go_wp2_with fail
              go_roundg 0
              case measure => omega
              case rel => exact ⟨1, by omega, rfl, rfl, by intro _ h; exact absurd h.1 (by simp), bt Bm Bn⟩
            | true =>
              by_cases hl : 0 < a12.length
              · go_wp2_with fail
                go_ret
                exact ⟨by rw [hval2.out, if_pos ⟨by trivial, hl⟩]; rfl, bt Bm Bn⟩
              · go_wp2_with fail
                go_roundg 0
                case measure => omega
                case rel => exact ⟨1, by omega, rfl, rfl, fun _ h => hl h.2, bt Bm Bn⟩
        · obtain rfl : k = 1 := by omega
          have z1 := q1 (by omega)
          have hfin : Hid (ans = 0) := by
            show _ = _
            rw [hval2.out, if_neg]
            rintro ⟨x1, x2⟩
            exact z1 ⟨x1, x2⟩
          clear q1 z1 hval2 h0
          go_wp2_with fail
          go_ret
          exact ⟨by rw [hfin.out]; rfl, Bm⟩


set_option maxHeartbeats 8000000 in
theorem check2x_any (real : Bool) (g : Nat) (s11 : Bool) (a11 b11 : List Nat) (s12 : Bool) (a12 b12 : List Nat) (A11 : Option Addr) (c11 : Nat) (D11 : Option Addr) (d11 : Nat) (A12 : Option Addr) (c12 : Nat) (D12 : Option Addr) (d12 : Nat) (s21 : Bool) (a21 b21 : List Nat) (s22 : Bool) (a22 b22 : List Nat) (A21 : Option Addr) (c21 : Nat) (D21 : Option Addr) (d21 : Nat) (A22 : Option Addr) (c22 : Nat) (D22 : Option Addr) (d22 : Nat) (w : World) (hg : SB w g [.bool s11, .slice A11 a11.length c11, .slice D11 b11.length d11, .bool s12, .slice A12 a12.length c12, .slice D12 b12.length d12, .bool s21, .slice A21 a21.length c21, .slice D21 b21.length d21, .bool s22, .slice A22 a22.length c22, .slice D22 b22.length d22]) (r11 : RW w w.heap.size A11 c11 a11) (r12 : RW w w.heap.size D11 d11 b11) (r13 : RW w w.heap.size A12 c12 a12) (r14 : RW w w.heap.size D12 d12 b12) (r21 : RW w w.heap.size A21 c21 a21) (r22 : RW w w.heap.size D21 d21 b21) (r23 : RW w w.heap.size A22 c22 a22) (r24 : RW w w.heap.size D22 d22 b22) :
    Calls Tryz.prog 32 #[.bool real, .slice (some ⟨g, 0, none⟩) 2 2] w fun e w' => e = .returned (.int .i64 (chkN2 real ⟨s11, a11, b11⟩ ⟨s12, a12, b12⟩ ⟨s21, a21, b21⟩ ⟨s22, a22, b22⟩)) ∧ Below w.heap.size w w' := by
  have h1 := fun w' B => esound_any (.agg #[.bool s11, .slice A11 a11.length c11, .slice D11 b11.length d11, .bool s12, .slice A12 a12.length c12, .slice D12 b12.length d12]) ⟨s11, a11, b11⟩ ⟨s12, a12, b12⟩ w' (vns r11 r12 r13 r14 B)
  have h2 := fun w' B => esound_any (.agg #[.bool s21, .slice A21 a21.length c21, .slice D21 b21.length d21, .bool s22, .slice A22 a22.length c22, .slice D22 b22.length d22]) ⟨s21, a21, b21⟩ ⟨s22, a22, b22⟩ w' (vns r21 r22 r23 r24 B)
  obtain ⟨n1, hn1⟩ : ∃ z, Hid (nB ⟨s11, a11, b11⟩ ⟨s12, a12, b12⟩ = z) := ⟨_, rfl⟩
  simp only [hn1.out] at h1
  obtain ⟨n2, hn2⟩ : ∃ z, Hid (nB ⟨s21, a21, b21⟩ ⟨s22, a22, b22⟩ = z) := ⟨_, rfl⟩
  simp only [hn2.out] at h2
  have hval : Hid (chkN2 real ⟨s11, a11, b11⟩ ⟨s12, a12, b12⟩ ⟨s21, a21, b21⟩ ⟨s22, a22, b22⟩ = if n1 = true ∧ n2 = true then (if real = true ∧ (0 < a12.length ∨ 0 < a22.length) then 10 else 0) else 2) := by
    show _ = _
    unfold chkN2
    rw [hn1.out, hn2.out]
  obtain ⟨ans, hans⟩ : ∃ z : Int, Hid (chkN2 real ⟨s11, a11, b11⟩ ⟨s12, a12, b12⟩ ⟨s21, a21, b21⟩ ⟨s22, a22, b22⟩ = z) := ⟨_, rfl⟩
  rw [hans.out]
  go_enter Tryz.func32, Tryz.ntmps32
  go_wp2_with fail
  go_loopg [11] 2 (fun gg iv wr => ∃ k : Nat, k ≤ 2 ∧ 2 - k = gg ∧ iv = .int .i64 (k : Int) ∧ (1 ≤ k → n1 = true) ∧ (2 ≤ k → n2 = true) ∧ Below w.heap.size w wr)
  case atStart => exact ⟨0, by omega, rfl, rfl, by intro h; omega, by intro h; omega, Below.refl _ _⟩
  case round =>
    obtain ⟨k, hk, rfl, rfl, q1, q2, Bl⟩ := hrel
    by_cases h0 : k < 2
    · obtain rfl | rfl : k = 0 ∨ k = 1 := by omega
      · have G := hg.nx Bl
        have m0 := G.cell 0
        have m1 := G.cell 1
        have m2 := G.cell 2
        have m3 := G.cell 3
        have m4 := G.cell 4
        have m5 := G.cell 5
        have Bn := bal wr (.cells #[.bool s11, .slice A11 a11.length c11, .slice D11 b11.length d11, .bool s12, .slice A12 a12.length c12, .slice D12 b12.length d12] 26)
        cases n1 with
        | false =>
          go_wp2_with fail
          refine (h1 _ (bt Bl Bn)).mono ?_; rintro e w3 ⟨rfl, B3⟩
          go_wp2_with fail
          go_ret
          exact ⟨by rw [← hans.out, hval.out, if_neg (by simp)]; rfl, bt (bt Bl Bn) B3⟩
        | true =>
          go_wp2_with fail
          refine (h1 _ (bt Bl Bn)).mono ?_; rintro e w3 ⟨rfl, B3⟩
          go_wp2_with fail
          go_roundg 1
          case measure => omega
          case rel => exact ⟨1, by omega, rfl, rfl, fun _ => by trivial, by intro h; omega, bt (bt Bl Bn) B3⟩
      · have G := hg.nx Bl
        have m0 := G.cell 6
        have m1 := G.cell 7
        have m2 := G.cell 8
        have m3 := G.cell 9
        have m4 := G.cell 10
        have m5 := G.cell 11
        have Bn := bal wr (.cells #[.bool s21, .slice A21 a21.length c21, .slice D21 b21.length d21, .bool s22, .slice A22 a22.length c22, .slice D22 b22.length d22] 26)
        cases n2 with
        | false =>
          go_wp2_with fail
          refine (h2 _ (bt Bl Bn)).mono ?_; rintro e w3 ⟨rfl, B3⟩
          go_wp2_with fail
          go_ret
          exact ⟨by rw [← hans.out, hval.out, if_neg (by simp)]; rfl, bt (bt Bl Bn) B3⟩
        | true =>
          go_wp2_with fail
          refine (h2 _ (bt Bl Bn)).mono ?_; rintro e w3 ⟨rfl, B3⟩
          go_wp2_with fail
          go_roundg 0
          case measure => omega
          case rel => exact ⟨2, by omega, rfl, rfl, fun _ => q1 (by omega), fun _ => by trivial, bt (bt Bl Bn) B3⟩
    · obtain rfl : k = 2 := by omega
      have t1 := q1 (by omega)
      have t2 := q2 (by omega)
      subst t1 t2
      clear q1 q2 h0
      have hval2 : Hid (ans = if real = true ∧ (0 < a12.length ∨ 0 < a22.length) then 10 else 0) := by show _ = _; rw [← hans.out, hval.out, if_pos ⟨rfl, rfl⟩]
      clear hval
      go_wp2_with fail
      go_loopg [21] 2 (fun gg iv ww => ∃ k : Nat, k ≤ 2 ∧ 2 - k = gg ∧ iv = .int .i64 (k : Int) ∧ (1 ≤ k → ¬ (real = true ∧ 0 < a12.length)) ∧ (2 ≤ k → ¬ (real = true ∧ 0 < a22.length)) ∧ Below w.heap.size w ww)
      case atStart => exact ⟨0, by omega, rfl, rfl, by intro h; omega, by intro h; omega, Bl⟩
      case round =>
        obtain ⟨k, hk, rfl, rfl, q1, q2, Bm⟩ := hrel
        by_cases h0 : k < 2
        · obtain rfl | rfl : k = 0 ∨ k = 1 := by omega
          · have G := hg.nx Bm
            have m0 := G.cell 0
            have m1 := G.cell 1
            have m2 := G.cell 2
            have m3 := G.cell 3
            have m4 := G.cell 4
            have m5 := G.cell 5
            have Bn := bal wr (.cells #[.bool s11, .slice A11 a11.length c11, .slice D11 b11.length d11, .bool s12, .slice A12 a12.length c12, .slice D12 b12.length d12] 26)
            cases real with
            | false =>
              go_wp2_with fail
              go_roundg 1
              case measure => omega
              case rel => exact ⟨1, by omega, rfl, rfl, by intro _ h; exact absurd h.1 (by simp), by intro _ h; exact absurd h.1 (by simp), bt Bm Bn⟩
            | true =>
              by_cases hl : 0 < a12.length
              · go_wp2_with fail
                go_ret
                exact ⟨by rw [hval2.out, if_pos ⟨by trivial, .inl hl⟩]; rfl, bt Bm Bn⟩
              · go_wp2_with fail
                go_roundg 1
                case measure => omega
                case rel => exact ⟨1, by omega, rfl, rfl, fun _ h => hl h.2, by intro h; omega, bt Bm Bn⟩
          · have G := hg.nx Bm
            have m0 := G.cell 6
            have m1 := G.cell 7
            have m2 := G.cell 8
            have m3 := G.cell 9
            have m4 := G.cell 10
            have m5 := G.cell 11
            have Bn := bal wr (.cells #[.bool s21, .slice A21 a21.length c21, .slice D21 b21.length d21, .bool s22, .slice A22 a22.length c22, .slice D22 b22.length d22] 26)
            cases real with
            | false =>
              go_wp2_with fail
              go_roundg 0
              case measure => omega
              case rel => exact ⟨2, by omega, rfl, rfl, by intro _ h; exact absurd h.1 (by simp), by intro _ h; exact absurd h.1 (by simp), bt Bm Bn⟩
            | true =>
              by_cases hl : 0 < a22.length
              · go_wp2_with fail
                go_ret
                exact ⟨by rw [hval2.out, if_pos ⟨by trivial, .inr hl⟩]; rfl, bt Bm Bn⟩
              · go_wp2_with fail
                go_roundg 0
                case measure => omega
                case rel => exact ⟨2, by omega, rfl, rfl, fun _ => q1 (by omega), fun _ h => hl h.2, bt Bm Bn⟩
        · obtain rfl : k = 2 := by omega
          have z1 := q1 (by omega)
          have z2 := q2 (by omega)
          have hfin : Hid (ans = 0) := by
            show _ = _
            rw [hval2.out, if_neg]
            rintro ⟨x1, x2⟩
            rcases x2 with x2 | x2
            · exact z1 ⟨x1, x2⟩
            · exact z2 ⟨x1, x2⟩
          clear q1 q2 z1 z2 hval2 h0
          go_wp2_with fail
          go_ret
          exact ⟨by rw [hfin.out]; rfl, Bm⟩

end Go.Proofs.YtbgggepdlkbpoaaGreatDoor
namespace Go.Proofs.YtbgggepdlkbpoaaGreatDoor
open Go.RowKit

def sgn (neg : Bool) (k : Nat) : Int := if neg = true then -(k : Int) else (k : Int)
theorem sgn_true (k : Nat) : sgn true k = -(k : Int) := by unfold sgn; rw [if_pos rfl]
theorem sgn_false (k : Nat) : sgn false k = (k : Int) := by unfold sgn; rw [if_neg (by simp)]
theorem whole_val {neg : Bool} {a : List Nat} : ratN neg (val a) (val [1]) = ((sgn neg (val a) : Int) : Rat) := by rw [val_one]; exact ratN_whole neg (val a)


set_option maxHeartbeats 1000000 in
theorem whole_any (neg : Bool) (A : Option Addr) (c n : Nat) (a : List Nat) (w : World) (hn : n = a.length) (ha : RW w w.heap.size A c a) (na : Nrm a) (hla : a.length ≤ 15000) :
    Calls Tryz.prog 46 #[.bool neg, .slice A n c] w (RetR w ((sgn neg (val a) : Int) : Rat)) := by
  subst hn
  have B1 := bal w (.cells #[.bool false, .slice none 0 0, .slice none 0 0] 24)
  have s1 := SB.new w [.bool false, .slice none 0 0, .slice none 0 0] 24
  have z1 : (w.alloc (.cells #[.bool false, .slice none 0 0, .slice none 0 0] 24)).heap.size = w.heap.size + 1 := by simp
  have B2 := bal (w.alloc (.cells #[.bool false, .slice none 0 0, .slice none 0 0] 24)) (.cells #[.int .u32 (1 : Nat)] 55)
  have r1 := RW.one (w.alloc (.cells #[.bool false, .slice none 0 0, .slice none 0 0] 24)) 55 (show 1 < 4294967296 by omega)
  rw [z1] at r1
  have hR := rat_any neg A (some ⟨w.heap.size + 1, 0, none⟩) c 1 a.length 1 a [1] _ rfl rfl (st ha (bt B1 B2)) (r1.more (by simp)) na (by rw [← digs_one1]; exact Nrm_digs _) (by rw [val_one]; omega) hla (by simp)
  rw [whole_val] at hR
  generalize ((sgn neg (val a) : Int) : Rat) = q at *
  have s2 := s1.nx B2
  go_enter Tryz.func46, Tryz.ntmps46
  go_wp2_with fail
  refine hR.mono ?_; rintro e w4 ⟨A4, c4, A5, c5, rfl, O4, O5, B4⟩
  have s4 := s2.nx B4
  have m0 := s4.cell 0
  have m1 := s4.cell 1
  have m2 := s4.cell 2
  have f0 := s4.frozen 0
  have f1 := s4.frozen 1
  have f2 := s4.frozen 2
  have hb : w.heap.size < ((w.alloc (.cells #[.bool false, .slice none 0 0, .slice none 0 0] 24)).alloc (.cells #[.int .u32 (1 : Nat)] 55)).heap.size := by simp <;> omega
  have s6 := s4.put3 (.bool (qn q)) (.slice A4 (digs (qt q)).length c4) (.slice A5 (digs (qd q)).length c5)
  have B6 := put3_below (b := w.heap.size) (bt (bt B1 B2) B4) (Nat.le_refl _) (.bool (qn q)) (.slice A4 (digs (qt q)).length c4) (.slice A5 (digs (qd q)).length c5)
  have Oa := O4.put3 (b := w.heap.size) hb (.bool (qn q)) (.slice A4 (digs (qt q)).length c4) (.slice A5 (digs (qd q)).length c5)
  have Ob := O5.put3 (b := w.heap.size) hb (.bool (qn q)) (.slice A4 (digs (qt q)).length c4) (.slice A5 (digs (qd q)).length c5)
  have r0 := s6.cell 0
  have r1 := s6.cell 1
  have r2 := s6.cell 2
  unfold wr3 at s6 B6 Oa Ob r0 r1 r2
  go_wp2_with fail
  refine bodyPost_ret (v := (.agg #[.bool (qn q), .slice A4 (digs (qt q)).length c4, .slice A5 (digs (qd q)).length c5])) (by simp [results, r0, r1, r2, go_sem]) rfl ?_
  exact ⟨A4, c4, A5, c5, rfl, Oa.base_le (by omega), Ob.base_le (by omega), B6⟩


/-- an answer: a fraction as it came, of the call's own -/
def RetV (w : World) (s : Bool) (a b : List Nat) (e : Ending) (w' : World) : Prop := ∃ A c D d, e = .returned (.agg #[.bool s, .slice A a.length c, .slice D b.length d]) ∧ OW w' w.heap.size A c a ∧ OW w' w.heap.size D d b ∧ Below w.heap.size w w'


set_option maxHeartbeats 2000000 in
theorem own1_any (v : Value) (s : Bool) (a b : List Nat) (w : World) (hv : VR w w.heap.size v s a b) :
    Calls Tryz.prog 67 #[v] w (RetV w s a b) := by
  obtain ⟨A, c, D, d, rfl, ra, rb⟩ := hv
  have k0 := S2.new w [.bool s, .slice A a.length c, .slice D b.length d] [.bool false, .slice none 0 0, .slice none 0 0] 24 24 3
  have hC1 := fun w' x => clone_any A c _ a w' rfl x
  have hC2 := fun w' x => clone_any D d _ b w' rfl x
  have hsz : w.heap.size + 1 < ((w.alloc (.cells #[.bool s, .slice A a.length c, .slice D b.length d] 24)).alloc (.cells #[.bool false, .slice none 0 0, .slice none 0 0] 24)).heap.size := k0.2.1.2
  go_enter Tryz.func67, Tryz.ntmps67
  go_wp2_with fail
  have k0d := k0.dr
  have k0s := And.intro (k0d.1.cell 0) (And.intro (k0d.1.cell 1) (And.intro (k0d.1.cell 2) (And.intro (k0d.2.1.cell 0) (And.intro (k0d.2.1.frozen 0) (And.intro (k0d.2.1.cell 1) (And.intro (k0d.2.1.frozen 1) (And.intro (k0d.2.1.cell 2) (And.intro (k0d.2.1.frozen 2) (k0d)))))))))
  go_region_held3 (fun w' => w'.cell? ⟨w.heap.size, 0, none⟩ = some (.bool s) ∧ w'.cell? ⟨w.heap.size, 1, none⟩ = some (.slice A a.length c) ∧ w'.cell? ⟨w.heap.size, 2, none⟩ = some (.slice D b.length d) ∧ w'.cell? ⟨w.heap.size + 1, 0, none⟩ = some (cv w' (w.heap.size + 1) 0) ∧ w'.frozen? ⟨w.heap.size + 1, 0, none⟩ = false ∧ w'.cell? ⟨w.heap.size + 1, 1, none⟩ = some (cv w' (w.heap.size + 1) 1) ∧ w'.frozen? ⟨w.heap.size + 1, 1, none⟩ = false ∧ w'.cell? ⟨w.heap.size + 1, 2, none⟩ = some (cv w' (w.heap.size + 1) 2) ∧ w'.frozen? ⟨w.heap.size + 1, 2, none⟩ = false ∧ S2 w w.heap.size [.bool s, .slice A a.length c, .slice D b.length d] 3 w')
    (first
      | with_reducible exact k0s
      | (have s1 := (by assumption : _ ∧ _ ∧ _ ∧ _ ∧ _ ∧ _ ∧ _ ∧ _ ∧ _ ∧ S2 w w.heap.size [.bool s, .slice A a.length c, .slice D b.length d] 3 _).2.2.2.2.2.2.2.2.2.nx BX; have q0_ := s1.1.cell 0; have q1_ := s1.1.cell 1; have q2_ := s1.1.cell 2; have q3_ := s1.2.1.cell 0; have q4_ := s1.2.1.frozen 0; have q5_ := s1.2.1.cell 1; have q6_ := s1.2.1.frozen 1; have q7_ := s1.2.1.cell 2; have q8_ := s1.2.1.frozen 2; with_reducible exact ⟨q0_, q1_, q2_, q3_, q4_, q5_, q6_, q7_, q8_, s1⟩)
      | (have s1 := (by assumption : _ ∧ _ ∧ _ ∧ _ ∧ _ ∧ _ ∧ _ ∧ _ ∧ _ ∧ S2 w w.heap.size [.bool s, .slice A a.length c, .slice D b.length d] 3 _).2.2.2.2.2.2.2.2.2.put (.bool s) (.slice A4 a.length c4) (.slice A5 b.length c5); have q0_ := s1.1.cell 0; have q1_ := s1.1.cell 1; have q2_ := s1.1.cell 2; have q3_ := s1.2.1.cell 0; have q4_ := s1.2.1.frozen 0; have q5_ := s1.2.1.cell 1; have q6_ := s1.2.1.frozen 1; have q7_ := s1.2.1.cell 2; have q8_ := s1.2.1.frozen 2; with_reducible exact ⟨q0_, q1_, q2_, q3_, q4_, q5_, q6_, q7_, q8_, s1⟩))
    (first
      | (go_at_call_of 65 (Value.slice A a.length c); have hh := (by assumption : _ ∧ _ ∧ _ ∧ _ ∧ _ ∧ _ ∧ _ ∧ _ ∧ _ ∧ S2 w w.heap.size [.bool s, .slice A a.length c, .slice D b.length d] 3 _).2.2.2.2.2.2.2.2.2; refine (hC1 _ (st ra hh.2.2)).mono ?_; rintro e w4 ⟨A4, c4, rfl, O4, BX⟩)
      | (go_at_call_of 65 (Value.slice D b.length d); have hh := (by assumption : _ ∧ _ ∧ _ ∧ _ ∧ _ ∧ _ ∧ _ ∧ _ ∧ _ ∧ S2 w w.heap.size [.bool s, .slice A a.length c, .slice D b.length d] 3 _).2.2.2.2.2.2.2.2.2; refine (hC2 _ (st rb hh.2.2)).mono ?_; rintro e w5 ⟨A5, c5, rfl, O5, BX⟩; have kk := hh.nx BX; have B5 := BX; have sz := hh.2.1.2))
  have s6 := kk.2.1.put3 (.bool s) (.slice A4 a.length c4) (.slice A5 b.length c5)
  have B6 := wr3_below (b := w.heap.size + 1) kk.2.2 (by omega) (.bool s) (.slice A4 a.length c4) (.slice A5 b.length c5)
  have Oa := (O4.below B5 (Nat.le_refl _)).put3 (b := w.heap.size + 1) hsz (.bool s) (.slice A4 a.length c4) (.slice A5 b.length c5)
  have Ob := O5.put3 (b := w.heap.size + 1) sz (.bool s) (.slice A4 a.length c4) (.slice A5 b.length c5)
  have r0 := s6.cell 0
  have r1 := s6.cell 1
  have r2 := s6.cell 2
  unfold wr3 at s6 B6 Oa Ob r0 r1 r2
  go_wp2_with fail
  refine bodyPost_ret (v := .agg #[.bool s, .slice A4 a.length c4, .slice A5 b.length c5]) (by simp [results, r0, r1, r2, go_sem]) rfl ?_
  exact ⟨A4, c4, A5, c5, rfl, Oa.base_le (Nat.le_of_lt (Nat.lt_of_succ_lt hsz)), Ob.base_le (by omega), B6⟩


/-- an answer: a number, of the call's own -/
def RetN (w : World) (r i : Rw) (e : Ending) (w' : World) : Prop := ∃ A1 c1 D1 d1 A2 c2 D2 d2, e = .returned (.agg #[.bool r.s, .slice A1 r.a.length c1, .slice D1 r.b.length d1, .bool i.s, .slice A2 i.a.length c2, .slice D2 i.b.length d2]) ∧
  OW w' w.heap.size A1 c1 r.a ∧ OW w' w.heap.size D1 d1 r.b ∧ OW w' w.heap.size A2 c2 i.a ∧ OW w' w.heap.size D2 d2 i.b ∧ Below w.heap.size w w'


set_option maxHeartbeats 4000000 in
theorem own_any (v : Value) (r i : Rw) (w : World) (hv : VN w w.heap.size v r i) :
    Calls Tryz.prog 53 #[v] w (RetN w r i) := by
  obtain ⟨s1, a1, b1⟩ := r
  obtain ⟨s2, a2, b2⟩ := i
  obtain ⟨A1, c1, D1, d1, A2, c2, D2, d2, rfl, r1, r2, r3, r4⟩ := hv
  dsimp only at r1 r2 r3 r4 ⊢
  have k0 := S2.new w [.bool s1, .slice A1 a1.length c1, .slice D1 b1.length d1, .bool s2, .slice A2 a2.length c2, .slice D2 b2.length d2] [.bool false, .slice none 0 0, .slice none 0 0, .bool false, .slice none 0 0, .slice none 0 0] 26 26 6
  have hsz : w.heap.size + 1 < ((w.alloc (.cells #[.bool s1, .slice A1 a1.length c1, .slice D1 b1.length d1, .bool s2, .slice A2 a2.length c2, .slice D2 b2.length d2] 26)).alloc (.cells #[.bool false, .slice none 0 0, .slice none 0 0, .bool false, .slice none 0 0, .slice none 0 0] 26)).heap.size := k0.2.1.2
  go_enter Tryz.func53, Tryz.ntmps53
  go_wp2_with fail
  have k0d := k0.dr
  have k0s := And.intro (k0d.1.cell 0) (And.intro (k0d.1.cell 1) (And.intro (k0d.1.cell 2) (And.intro (k0d.1.cell 3) (And.intro (k0d.1.cell 4) (And.intro (k0d.1.cell 5) (And.intro (k0d.2.1.cell 0) (And.intro (k0d.2.1.frozen 0) (And.intro (k0d.2.1.cell 1) (And.intro (k0d.2.1.frozen 1) (And.intro (k0d.2.1.cell 2) (And.intro (k0d.2.1.frozen 2) (And.intro (k0d.2.1.cell 3) (And.intro (k0d.2.1.frozen 3) (And.intro (k0d.2.1.cell 4) (And.intro (k0d.2.1.frozen 4) (And.intro (k0d.2.1.cell 5) (And.intro (k0d.2.1.frozen 5) (k0d))))))))))))))))))
  go_region_held3 (fun w' => w'.cell? ⟨w.heap.size, 0, none⟩ = some (.bool s1) ∧ w'.cell? ⟨w.heap.size, 1, none⟩ = some (.slice A1 a1.length c1) ∧ w'.cell? ⟨w.heap.size, 2, none⟩ = some (.slice D1 b1.length d1) ∧ w'.cell? ⟨w.heap.size, 3, none⟩ = some (.bool s2) ∧ w'.cell? ⟨w.heap.size, 4, none⟩ = some (.slice A2 a2.length c2) ∧ w'.cell? ⟨w.heap.size, 5, none⟩ = some (.slice D2 b2.length d2) ∧ w'.cell? ⟨w.heap.size + 1, 0, none⟩ = some (cv w' (w.heap.size + 1) 0) ∧ w'.frozen? ⟨w.heap.size + 1, 0, none⟩ = false ∧ w'.cell? ⟨w.heap.size + 1, 1, none⟩ = some (cv w' (w.heap.size + 1) 1) ∧ w'.frozen? ⟨w.heap.size + 1, 1, none⟩ = false ∧ w'.cell? ⟨w.heap.size + 1, 2, none⟩ = some (cv w' (w.heap.size + 1) 2) ∧ w'.frozen? ⟨w.heap.size + 1, 2, none⟩ = false ∧ w'.cell? ⟨w.heap.size + 1, 3, none⟩ = some (cv w' (w.heap.size + 1) 3) ∧ w'.frozen? ⟨w.heap.size + 1, 3, none⟩ = false ∧ w'.cell? ⟨w.heap.size + 1, 4, none⟩ = some (cv w' (w.heap.size + 1) 4) ∧ w'.frozen? ⟨w.heap.size + 1, 4, none⟩ = false ∧ w'.cell? ⟨w.heap.size + 1, 5, none⟩ = some (cv w' (w.heap.size + 1) 5) ∧ w'.frozen? ⟨w.heap.size + 1, 5, none⟩ = false ∧ S2 w w.heap.size [.bool s1, .slice A1 a1.length c1, .slice D1 b1.length d1, .bool s2, .slice A2 a2.length c2, .slice D2 b2.length d2] 6 w')
    (first
      | with_reducible exact k0s
      | (have s1 := (by assumption : _ ∧ _ ∧ _ ∧ _ ∧ _ ∧ _ ∧ _ ∧ _ ∧ _ ∧ _ ∧ _ ∧ _ ∧ _ ∧ _ ∧ _ ∧ _ ∧ _ ∧ _ ∧ S2 w w.heap.size [.bool s1, .slice A1 a1.length c1, .slice D1 b1.length d1, .bool s2, .slice A2 a2.length c2, .slice D2 b2.length d2] 6 _).2.2.2.2.2.2.2.2.2.2.2.2.2.2.2.2.2.2.nx BX; have q0_ := s1.1.cell 0; have q1_ := s1.1.cell 1; have q2_ := s1.1.cell 2; have q3_ := s1.1.cell 3; have q4_ := s1.1.cell 4; have q5_ := s1.1.cell 5; have q6_ := s1.2.1.cell 0; have q7_ := s1.2.1.frozen 0; have q8_ := s1.2.1.cell 1; have q9_ := s1.2.1.frozen 1; have q10_ := s1.2.1.cell 2; have q11_ := s1.2.1.frozen 2; have q12_ := s1.2.1.cell 3; have q13_ := s1.2.1.frozen 3; have q14_ := s1.2.1.cell 4; have q15_ := s1.2.1.frozen 4; have q16_ := s1.2.1.cell 5; have q17_ := s1.2.1.frozen 5; with_reducible exact ⟨q0_, q1_, q2_, q3_, q4_, q5_, q6_, q7_, q8_, q9_, q10_, q11_, q12_, q13_, q14_, q15_, q16_, q17_, s1⟩)
      | (have s1 := (by assumption : _ ∧ _ ∧ _ ∧ _ ∧ _ ∧ _ ∧ _ ∧ _ ∧ _ ∧ _ ∧ _ ∧ _ ∧ _ ∧ _ ∧ _ ∧ _ ∧ _ ∧ _ ∧ S2 w w.heap.size [.bool s1, .slice A1 a1.length c1, .slice D1 b1.length d1, .bool s2, .slice A2 a2.length c2, .slice D2 b2.length d2] 6 _).2.2.2.2.2.2.2.2.2.2.2.2.2.2.2.2.2.2.put6 (.bool s1) (.slice E1 a1.length e1) (.slice F1 b1.length f1) (.bool s2) (.slice E2 a2.length e2) (.slice F2 b2.length f2); have q0_ := s1.1.cell 0; have q1_ := s1.1.cell 1; have q2_ := s1.1.cell 2; have q3_ := s1.1.cell 3; have q4_ := s1.1.cell 4; have q5_ := s1.1.cell 5; have q6_ := s1.2.1.cell 0; have q7_ := s1.2.1.frozen 0; have q8_ := s1.2.1.cell 1; have q9_ := s1.2.1.frozen 1; have q10_ := s1.2.1.cell 2; have q11_ := s1.2.1.frozen 2; have q12_ := s1.2.1.cell 3; have q13_ := s1.2.1.frozen 3; have q14_ := s1.2.1.cell 4; have q15_ := s1.2.1.frozen 4; have q16_ := s1.2.1.cell 5; have q17_ := s1.2.1.frozen 5; with_reducible exact ⟨q0_, q1_, q2_, q3_, q4_, q5_, q6_, q7_, q8_, q9_, q10_, q11_, q12_, q13_, q14_, q15_, q16_, q17_, s1⟩))
    (first
      | (go_at_call_of 67 (Value.agg #[.bool s1, .slice A1 a1.length c1, .slice D1 b1.length d1]); have hh := (by assumption : _ ∧ _ ∧ _ ∧ _ ∧ _ ∧ _ ∧ _ ∧ _ ∧ _ ∧ _ ∧ _ ∧ _ ∧ _ ∧ _ ∧ _ ∧ _ ∧ _ ∧ _ ∧ S2 w w.heap.size [.bool s1, .slice A1 a1.length c1, .slice D1 b1.length d1, .bool s2, .slice A2 a2.length c2, .slice D2 b2.length d2] 6 _).2.2.2.2.2.2.2.2.2.2.2.2.2.2.2.2.2.2; refine (own1_any (.agg #[.bool s1, .slice A1 a1.length c1, .slice D1 b1.length d1]) s1 a1 b1 _ (vrs r1 r2 hh.2.2)).mono ?_; rintro e w4 ⟨E1, e1, F1, f1, rfl, O4, O5, BX⟩)
      | (go_at_call_of 67 (Value.agg #[.bool s2, .slice A2 a2.length c2, .slice D2 b2.length d2]); have hh := (by assumption : _ ∧ _ ∧ _ ∧ _ ∧ _ ∧ _ ∧ _ ∧ _ ∧ _ ∧ _ ∧ _ ∧ _ ∧ _ ∧ _ ∧ _ ∧ _ ∧ _ ∧ _ ∧ S2 w w.heap.size [.bool s1, .slice A1 a1.length c1, .slice D1 b1.length d1, .bool s2, .slice A2 a2.length c2, .slice D2 b2.length d2] 6 _).2.2.2.2.2.2.2.2.2.2.2.2.2.2.2.2.2.2; refine (own1_any (.agg #[.bool s2, .slice A2 a2.length c2, .slice D2 b2.length d2]) s2 a2 b2 _ (vrs r3 r4 hh.2.2)).mono ?_; rintro e w5 ⟨E2, e2, F2, f2, rfl, O6, O7, BX⟩; have kk := hh.nx BX; have B5 := BX; have sz := hh.2.1.2))
  have s6 := kk.2.1.put6 (.bool s1) (.slice E1 a1.length e1) (.slice F1 b1.length f1) (.bool s2) (.slice E2 a2.length e2) (.slice F2 b2.length f2)
  have B6 := wr6_below (b := w.heap.size + 1) kk.2.2 (by omega) (.bool s1) (.slice E1 a1.length e1) (.slice F1 b1.length f1) (.bool s2) (.slice E2 a2.length e2) (.slice F2 b2.length f2)
  have Oa := (O4.below B5 (Nat.le_refl _)).put6 (b := w.heap.size + 1) hsz (.bool s1) (.slice E1 a1.length e1) (.slice F1 b1.length f1) (.bool s2) (.slice E2 a2.length e2) (.slice F2 b2.length f2)
  have Ob := (O5.below B5 (Nat.le_refl _)).put6 (b := w.heap.size + 1) hsz (.bool s1) (.slice E1 a1.length e1) (.slice F1 b1.length f1) (.bool s2) (.slice E2 a2.length e2) (.slice F2 b2.length f2)
  have Oc := O6.put6 (b := w.heap.size + 1) sz (.bool s1) (.slice E1 a1.length e1) (.slice F1 b1.length f1) (.bool s2) (.slice E2 a2.length e2) (.slice F2 b2.length f2)
  have Od := O7.put6 (b := w.heap.size + 1) sz (.bool s1) (.slice E1 a1.length e1) (.slice F1 b1.length f1) (.bool s2) (.slice E2 a2.length e2) (.slice F2 b2.length f2)
  have r0' := s6.cell 0
  have r1' := s6.cell 1
  have r2' := s6.cell 2
  have r3' := s6.cell 3
  have r4' := s6.cell 4
  have r5' := s6.cell 5
  unfold wr6 wr3 at s6 B6 Oa Ob Oc Od r0' r1' r2' r3' r4' r5'
  go_wp2_with fail
  refine bodyPost_ret (v := .agg #[.bool s1, .slice E1 a1.length e1, .slice F1 b1.length f1, .bool s2, .slice E2 a2.length e2, .slice F2 b2.length f2]) (by simp [results, r0', r1', r2', r3', r4', r5', go_sem]) rfl ?_
  have hle := Nat.le_of_lt (Nat.lt_of_succ_lt hsz)
  exact ⟨E1, e1, F1, f1, E2, e2, F2, f2, rfl, Oa.base_le hle, Ob.base_le hle, Oc.base_le (by omega), Od.base_le (by omega), B6⟩

end Go.Proofs.YtbgggepdlkbpoaaGreatDoor
namespace Go.Proofs.YtbgggepdlkbpoaaGreatDoor
open Go.RowKit

def rw0 : Rw := ⟨false, [], []⟩
/-- an answer: a number of the call's own, and an error's number -/
def RetNE (w : World) (x : Rw × Rw × Int) (e : Ending) (w' : World) : Prop := ∃ A1 c1 D1 d1 A2 c2 D2 d2, e = .returned (.tuple #[.agg #[.bool x.1.s, .slice A1 x.1.a.length c1, .slice D1 x.1.b.length d1, .bool x.2.1.s, .slice A2 x.2.1.a.length c2, .slice D2 x.2.1.b.length d2], .int .i64 x.2.2]) ∧
  OW w' w.heap.size A1 c1 x.1.a ∧ OW w' w.heap.size D1 d1 x.1.b ∧ OW w' w.heap.size A2 c2 x.2.1.a ∧ OW w' w.heap.size D2 d2 x.2.1.b ∧ Below w.heap.size w w'
theorem retNE_nil {w w' : World} (k : Int) (hb : Below w.heap.size w w') : RetNE w (rw0, rw0, k) (.returned (.tuple #[.agg #[.bool false, .slice none 0 0, .slice none 0 0, .bool false, .slice none 0 0, .slice none 0 0], .int .i64 k])) w' :=
  ⟨none, 0, none, 0, none, 0, none, 0, rfl, OW.nil _ _, OW.nil _ _, OW.nil _ _, OW.nil _ _, hb⟩
def fitQ (p q : Rat) : Rw × Rw × Int := if qw p ≤ 512 ∧ qw q ≤ 512 then (rwq p, rwq q, 0) else (rw0, rw0, 4)
theorem fitQ_ok {p q : Rat} (h1 : qw p ≤ 512) (h2 : qw q ≤ 512) : fitQ p q = (rwq p, rwq q, 0) := by unfold fitQ; rw [if_pos ⟨h1, h2⟩]
theorem fitQ_no {p q : Rat} (h : 512 < qw p ∨ 512 < qw q) : fitQ p q = (rw0, rw0, 4) := by unfold fitQ; rw [if_neg (by omega)]


set_option maxHeartbeats 4000000 in
theorem efit_any (v u : Value) (p q : Rat) (w : World) (hv : RQ w w.heap.size v p) (hu : RQ w w.heap.size u q) :
    Calls Tryz.prog 33 #[v, u] w (RetNE w (fitQ p q)) := by
  obtain ⟨A, c, D, d, rfl, ra, rb⟩ := hv
  obtain ⟨E, e0, H, h0, rfl, rc, rd⟩ := hu
  have lp1 := qw_t p
  have lp2 := qw_d p
  have lq1 := qw_t q
  have lq2 := qw_d q
  have hw1 : qw p = max (digs (qt p)).length (digs (qd p)).length := rfl
  have hw2 : qw q = max (digs (qt q)).length (digs (qd q)).length := rfl
  have k0 := S3.new w [.bool (qn p), .slice A (digs (qt p)).length c, .slice D (digs (qd p)).length d] [.bool (qn q), .slice E (digs (qt q)).length e0, .slice H (digs (qd q)).length h0] [.bool false, .slice none 0 0, .slice none 0 0, .bool false, .slice none 0 0, .slice none 0 0] 24 24 26 6
  have B4 := bal (((w.alloc (.cells #[.bool (qn p), .slice A (digs (qt p)).length c, .slice D (digs (qd p)).length d] 24)).alloc (.cells #[.bool (qn q), .slice E (digs (qt q)).length e0, .slice H (digs (qd q)).length h0] 24)).alloc (.cells #[.bool false, .slice none 0 0, .slice none 0 0, .bool false, .slice none 0 0, .slice none 0 0] 26)) (.cells #[.slice A (digs (qt p)).length c, .slice D (digs (qd p)).length d, .slice E (digs (qt q)).length e0, .slice H (digs (qd q)).length h0] 22)
  have k1 := k0.nx B4
  have z3 : (((w.alloc (.cells #[.bool (qn p), .slice A (digs (qt p)).length c, .slice D (digs (qd p)).length d] 24)).alloc (.cells #[.bool (qn q), .slice E (digs (qt q)).length e0, .slice H (digs (qd q)).length h0] 24)).alloc (.cells #[.bool false, .slice none 0 0, .slice none 0 0, .bool false, .slice none 0 0, .slice none 0 0] 26)).heap.size = w.heap.size + 3 := by simp
  have SA := SB.new (((w.alloc (.cells #[.bool (qn p), .slice A (digs (qt p)).length c, .slice D (digs (qd p)).length d] 24)).alloc (.cells #[.bool (qn q), .slice E (digs (qt q)).length e0, .slice H (digs (qd q)).length h0] 24)).alloc (.cells #[.bool false, .slice none 0 0, .slice none 0 0, .bool false, .slice none 0 0, .slice none 0 0] 26)) [.slice A (digs (qt p)).length c, .slice D (digs (qd p)).length d, .slice E (digs (qt q)).length e0, .slice H (digs (qd q)).length h0] 22
  rw [z3] at SA
  obtain ⟨W, hW⟩ : ∃ W, W = ((((w.alloc (.cells #[.bool (qn p), .slice A (digs (qt p)).length c, .slice D (digs (qd p)).length d] 24)).alloc (.cells #[.bool (qn q), .slice E (digs (qt q)).length e0, .slice H (digs (qd q)).length h0] 24)).alloc (.cells #[.bool false, .slice none 0 0, .slice none 0 0, .bool false, .slice none 0 0, .slice none 0 0] 26)).alloc (.cells #[.slice A (digs (qt p)).length c, .slice D (digs (qd p)).length d, .slice E (digs (qt q)).length e0, .slice H (digs (qd q)).length h0] 22)) := ⟨_, rfl⟩
  go_enter Tryz.func33, Tryz.ntmps33
  go_wp2_with fail
  rw [← hW] at SA k1 ⊢
  clear hW
  go_loopg [18] 4 (fun g iv wr => ∃ k : Nat, k ≤ 4 ∧ 4 - k = g ∧ iv = .int .i64 (k : Int) ∧ (1 ≤ k → (digs (qt p)).length ≤ 512) ∧ (2 ≤ k → (digs (qd p)).length ≤ 512) ∧ (3 ≤ k → (digs (qt q)).length ≤ 512) ∧ (4 ≤ k → (digs (qd q)).length ≤ 512) ∧ wr = W)
  case atStart => exact ⟨0, by omega, rfl, rfl, by intro h; omega, by intro h; omega, by intro h; omega, by intro h; omega, rfl⟩
  case round =>
    obtain ⟨k, hk, rfl, rfl, hq1, hq2, hq3, hq4, rfl⟩ := hrel
    by_cases h4 : k < 4
    · obtain rfl | rfl | rfl | rfl : k = 0 ∨ k = 1 ∨ k = 2 ∨ k = 3 := by omega
      · have x0 := SA.cell 0
        by_cases hl : 512 < (digs (qt p)).length
        · rw [fitQ_no (.inl (by omega))]
          clear hq1 hq2 hq3 hq4
          have hRC := k1.2.2.1
          go_wp2_with (refine wp_st6 rfl (.tmp 4) (.tmp 25) rfl _ rfl _ _ _ _ _ _ rfl hRC rfl rfl rfl rfl rfl rfl ?_)
          have s6 := k1.2.2.1.put6 (.bool false) (.slice none 0 0) (.slice none 0 0) (.bool false) (.slice none 0 0) (.slice none 0 0)
          have B6 := wr6_below (b := w.heap.size + 2) k1.2.2.2 (by omega) (.bool false) (.slice none 0 0) (.slice none 0 0) (.bool false) (.slice none 0 0) (.slice none 0 0)
          have r0' := s6.cell 0
          have r1' := s6.cell 1
          have r2' := s6.cell 2
          have r3' := s6.cell 3
          have r4' := s6.cell 4
          have r5' := s6.cell 5
          refine bodyPost_ret (v := .tuple #[.agg #[.bool false, .slice none 0 0, .slice none 0 0, .bool false, .slice none 0 0, .slice none 0 0], .int .i64 4]) (by simp [results, r0', r1', r2', r3', r4', r5', go_sem]) rfl ?_
          exact retNE_nil 4 B6
        · go_wp2_with fail
          go_roundg 3
          case measure => omega
          case rel => exact ⟨1, by omega, rfl, rfl, by intro _; omega, by intro _; omega, by intro _; omega, by intro _; omega, rfl⟩
      · have x1 := SA.cell 1
        by_cases hl : 512 < (digs (qd p)).length
        · rw [fitQ_no (.inl (by omega))]
          clear hq1 hq2 hq3 hq4
          have hRC := k1.2.2.1
          go_wp2_with (refine wp_st6 rfl (.tmp 4) (.tmp 25) rfl _ rfl _ _ _ _ _ _ rfl hRC rfl rfl rfl rfl rfl rfl ?_)
          have s6 := k1.2.2.1.put6 (.bool false) (.slice none 0 0) (.slice none 0 0) (.bool false) (.slice none 0 0) (.slice none 0 0)
          have B6 := wr6_below (b := w.heap.size + 2) k1.2.2.2 (by omega) (.bool false) (.slice none 0 0) (.slice none 0 0) (.bool false) (.slice none 0 0) (.slice none 0 0)
          have r0' := s6.cell 0
          have r1' := s6.cell 1
          have r2' := s6.cell 2
          have r3' := s6.cell 3
          have r4' := s6.cell 4
          have r5' := s6.cell 5
          refine bodyPost_ret (v := .tuple #[.agg #[.bool false, .slice none 0 0, .slice none 0 0, .bool false, .slice none 0 0, .slice none 0 0], .int .i64 4]) (by simp [results, r0', r1', r2', r3', r4', r5', go_sem]) rfl ?_
          exact retNE_nil 4 B6
        · go_wp2_with fail
          go_roundg 2
          case measure => omega
          case rel => exact ⟨2, by omega, rfl, rfl, by intro _; omega, by intro _; omega, by intro _; omega, by intro _; omega, rfl⟩
      · have x2 := SA.cell 2
        by_cases hl : 512 < (digs (qt q)).length
        · rw [fitQ_no (.inr (by omega))]
          clear hq1 hq2 hq3 hq4
          have hRC := k1.2.2.1
          go_wp2_with (refine wp_st6 rfl (.tmp 4) (.tmp 25) rfl _ rfl _ _ _ _ _ _ rfl hRC rfl rfl rfl rfl rfl rfl ?_)
          have s6 := k1.2.2.1.put6 (.bool false) (.slice none 0 0) (.slice none 0 0) (.bool false) (.slice none 0 0) (.slice none 0 0)
          have B6 := wr6_below (b := w.heap.size + 2) k1.2.2.2 (by omega) (.bool false) (.slice none 0 0) (.slice none 0 0) (.bool false) (.slice none 0 0) (.slice none 0 0)
          have r0' := s6.cell 0
          have r1' := s6.cell 1
          have r2' := s6.cell 2
          have r3' := s6.cell 3
          have r4' := s6.cell 4
          have r5' := s6.cell 5
          refine bodyPost_ret (v := .tuple #[.agg #[.bool false, .slice none 0 0, .slice none 0 0, .bool false, .slice none 0 0, .slice none 0 0], .int .i64 4]) (by simp [results, r0', r1', r2', r3', r4', r5', go_sem]) rfl ?_
          exact retNE_nil 4 B6
        · go_wp2_with fail
          go_roundg 1
          case measure => omega
          case rel => exact ⟨3, by omega, rfl, rfl, by intro _; omega, by intro _; omega, by intro _; omega, by intro _; omega, rfl⟩
      · have x3 := SA.cell 3
        by_cases hl : 512 < (digs (qd q)).length
        · rw [fitQ_no (.inr (by omega))]
          clear hq1 hq2 hq3 hq4
          have hRC := k1.2.2.1
          go_wp2_with (refine wp_st6 rfl (.tmp 4) (.tmp 25) rfl _ rfl _ _ _ _ _ _ rfl hRC rfl rfl rfl rfl rfl rfl ?_)
          have s6 := k1.2.2.1.put6 (.bool false) (.slice none 0 0) (.slice none 0 0) (.bool false) (.slice none 0 0) (.slice none 0 0)
          have B6 := wr6_below (b := w.heap.size + 2) k1.2.2.2 (by omega) (.bool false) (.slice none 0 0) (.slice none 0 0) (.bool false) (.slice none 0 0) (.slice none 0 0)
          have r0' := s6.cell 0
          have r1' := s6.cell 1
          have r2' := s6.cell 2
          have r3' := s6.cell 3
          have r4' := s6.cell 4
          have r5' := s6.cell 5
          refine bodyPost_ret (v := .tuple #[.agg #[.bool false, .slice none 0 0, .slice none 0 0, .bool false, .slice none 0 0, .slice none 0 0], .int .i64 4]) (by simp [results, r0', r1', r2', r3', r4', r5', go_sem]) rfl ?_
          exact retNE_nil 4 B6
        · go_wp2_with fail
          go_roundg 0
          case measure => omega
          case rel => exact ⟨4, by omega, rfl, rfl, by intro _; omega, by intro _; omega, by intro _; omega, by intro _; omega, rfl⟩
    · obtain rfl : k = 4 := by omega
      have h1 := hq1 (by omega)
      have h2 := hq2 (by omega)
      have h3 := hq3 (by omega)
      have h4' := hq4 (by omega)
      have HF := Lib.hid (fitQ_ok (p := p) (q := q) (by omega) (by omega))
      clear hq1 hq2 hq3 hq4 h1 h2 h3 h4' hw1 hw2 lp1 lp2 lq1 lq2
      have a0 := k1.1.cell 0
      have a1 := k1.1.cell 1
      have a2 := k1.1.cell 2
      have b0 := k1.2.1.cell 0
      have b1 := k1.2.1.cell 1
      have b2 := k1.2.1.cell 2
      have B1 := k1.2.2.2
      have hown := own_any (.agg #[.bool (qn p), .slice A (digs (qt p)).length c, .slice D (digs (qd p)).length d, .bool (qn q), .slice E (digs (qt q)).length e0, .slice H (digs (qd q)).length h0]) ⟨qn p, digs (qt p), digs (qd p)⟩ ⟨qn q, digs (qt q), digs (qd q)⟩ wr (vns ra rb rc rd B1)
      go_wp2_with fail
      refine hown.mono ?_; rintro e w5 ⟨E1, e1, F1, f1, E2, e2, F2, f2, rfl, O1, O2, O3, O4, B5⟩
      dsimp only at O1 O2 O3 O4
      have k5 := k1.nx B5
      have hb := k1.2.2.1.2
      have hRC := k5.2.2.1
      go_wp2_with (refine wp_st6 rfl (.tmp 4) (.tmp 30) rfl _ rfl _ _ _ _ _ _ rfl hRC rfl rfl rfl rfl rfl rfl ?_)
      have s6 := k5.2.2.1.put6 (.bool (qn p)) (.slice E1 (digs (qt p)).length e1) (.slice F1 (digs (qd p)).length f1) (.bool (qn q)) (.slice E2 (digs (qt q)).length e2) (.slice F2 (digs (qd q)).length f2)
      have B6 := wr6_below (b := w.heap.size + 2) k5.2.2.2 (by omega) (.bool (qn p)) (.slice E1 (digs (qt p)).length e1) (.slice F1 (digs (qd p)).length f1) (.bool (qn q)) (.slice E2 (digs (qt q)).length e2) (.slice F2 (digs (qd q)).length f2)
      have Oa := O1.put6 (b := w.heap.size + 2) hb (.bool (qn p)) (.slice E1 (digs (qt p)).length e1) (.slice F1 (digs (qd p)).length f1) (.bool (qn q)) (.slice E2 (digs (qt q)).length e2) (.slice F2 (digs (qd q)).length f2)
      have Ob := O2.put6 (b := w.heap.size + 2) hb (.bool (qn p)) (.slice E1 (digs (qt p)).length e1) (.slice F1 (digs (qd p)).length f1) (.bool (qn q)) (.slice E2 (digs (qt q)).length e2) (.slice F2 (digs (qd q)).length f2)
      have Oc := O3.put6 (b := w.heap.size + 2) hb (.bool (qn p)) (.slice E1 (digs (qt p)).length e1) (.slice F1 (digs (qd p)).length f1) (.bool (qn q)) (.slice E2 (digs (qt q)).length e2) (.slice F2 (digs (qd q)).length f2)
      have Od := O4.put6 (b := w.heap.size + 2) hb (.bool (qn p)) (.slice E1 (digs (qt p)).length e1) (.slice F1 (digs (qd p)).length f1) (.bool (qn q)) (.slice E2 (digs (qt q)).length e2) (.slice F2 (digs (qd q)).length f2)
      have r0' := s6.cell 0
      have r1' := s6.cell 1
      have r2' := s6.cell 2
      have r3' := s6.cell 3
      have r4' := s6.cell 4
      have r5' := s6.cell 5
      refine bodyPost_ret (v := .tuple #[.agg #[.bool (qn p), .slice E1 (digs (qt p)).length e1, .slice F1 (digs (qd p)).length f1, .bool (qn q), .slice E2 (digs (qt q)).length e2, .slice F2 (digs (qd q)).length f2], .int .i64 0]) (by simp [results, r0', r1', r2', r3', r4', r5', go_sem]) rfl ?_
      have hle : w.heap.size ≤ wr.heap.size := by omega
      rw [HF.out]
      exact ⟨E1, e1, F1, f1, E2, e2, F2, f2, rfl, Oa.base_le hle, Ob.base_le hle, Oc.base_le hle, Od.base_le hle, B6⟩

end Go.Proofs.YtbgggepdlkbpoaaGreatDoor
namespace Go.Proofs.YtbgggepdlkbpoaaGreatDoor
open Go.RowKit


theorem digs_u64 {k : Nat} (h : k < 18446744073709551616) : (digs k).length ≤ 2 := by
  rw [digs_len_le]
  exact Nat.lt_of_lt_of_le h (by rw [Wp_succ, Wp_succ, Wp_zero]; omega)
set_option maxHeartbeats 4000000 in
theorem int_any (n : Int) (w : World) (h0 : -9223372036854775808 ≤ n) (h1 : n ≤ 9223372036854775807) :
    Calls Tryz.prog 23 #[.int .i64 n] w (RetN w (rwq (n : Rat)) (rwq 0)) := by
  have B1 := bal w (.cells #[.bool false, .slice none 0 0, .slice none 0 0, .bool false, .slice none 0 0, .slice none 0 0] 26)
  have s1 := SB.new w [.bool false, .slice none 0 0, .slice none 0 0, .bool false, .slice none 0 0, .slice none 0 0] 26
  obtain ⟨q, hq⟩ : ∃ q : Rat, Hid (((sgn false (val []) : Int) : Rat) = q) ∧ Hid (q = 0) := ⟨_, rfl, by show _ = _; rw [sgn_false]; rfl⟩
  obtain ⟨hq, hq0⟩ := hq
  by_cases hn : n < 0
  · obtain ⟨k, hk⟩ : ∃ k : Nat, -n = (k : Int) := Int.eq_ofNat_of_zero_le (by omega)
    have hk64 : k < 18446744073709551616 := by omega
    have hlk := digs_u64 hk64
    obtain ⟨p, hp, hp0⟩ : ∃ p : Rat, Hid (((sgn true k : Int) : Rat) = p) ∧ Hid (p = (n : Rat)) := ⟨_, rfl, by show _ = _; rw [sgn_true, ← hk, Int.neg_neg]⟩
    have hof := of_any (k : Int) (w.alloc (.cells #[.bool false, .slice none 0 0, .slice none 0 0, .bool false, .slice none 0 0, .slice none 0 0] 26)) (by omega) (by omega)
    rw [Int.toNat_natCast] at hof
    have e2 : IntKind.u64.wrap (-IntKind.u64.wrap n) = (k : Int) := by rw [IntKind.wrap_u64, IntKind.wrap_u64]; omega
    have HK := Lib.hid hk
    rw [← hp0.out, ← hq0.out]
    clear hk
    go_enter Tryz.func23, Tryz.ntmps23
    go_wp2_with fail
    refine hof.mono ?_; rintro e w3 ⟨A3, c3, rfl, O3, B3⟩
    have hw1 := whole_any true A3 c3 _ (digs k) w3 rfl O3.rw (Nrm_digs _) (by omega)
    rw [val_digs, hp.out] at hw1
    go_wp2_with fail
    refine hw1.mono ?_; rintro e w4 ⟨A4, c4, D4, d4, rfl, O4, P4, B4⟩
    have hw2 := whole_any false none 0 0 [] w4 rfl (RW.nil _ _ _ _) Nrm_nil (by simp)
    rw [hq.out] at hw2
    go_wp2_with fail
    refine hw2.mono ?_; rintro e w5 ⟨A5, c5, D5, d5, rfl, O5, P5, B5⟩
    have s5 := ((s1.nx B3).nx B4).nx B5
    have hRC := s5.rc (n := 6)
    have hb3 : w.heap.size < w3.heap.size := (s1.nx B3).2
    have hb4 : w.heap.size < w4.heap.size := ((s1.nx B3).nx B4).2
    go_wp2_with (refine wp_st6 rfl (.tmp 2) (.tmp 16) rfl _ rfl _ _ _ _ _ _ rfl hRC rfl rfl rfl rfl rfl rfl ?_)
    have s6 := hRC.put6 (.bool (qn p)) (.slice A4 (digs (qt p)).length c4) (.slice D4 (digs (qd p)).length d4) (.bool (qn q)) (.slice A5 (digs (qt q)).length c5) (.slice D5 (digs (qd q)).length d5)
    have B6 := wr6_below (b := w.heap.size) (bt (bt (bt B1 B3) B4) B5) (Nat.le_refl _) (.bool (qn p)) (.slice A4 (digs (qt p)).length c4) (.slice D4 (digs (qd p)).length d4) (.bool (qn q)) (.slice A5 (digs (qt q)).length c5) (.slice D5 (digs (qd q)).length d5)
    have Oa := (O4.below B5 (Nat.le_refl _)).put6 (b := w.heap.size) hb3 (.bool (qn p)) (.slice A4 (digs (qt p)).length c4) (.slice D4 (digs (qd p)).length d4) (.bool (qn q)) (.slice A5 (digs (qt q)).length c5) (.slice D5 (digs (qd q)).length d5)
    have Ob := (P4.below B5 (Nat.le_refl _)).put6 (b := w.heap.size) hb3 (.bool (qn p)) (.slice A4 (digs (qt p)).length c4) (.slice D4 (digs (qd p)).length d4) (.bool (qn q)) (.slice A5 (digs (qt q)).length c5) (.slice D5 (digs (qd q)).length d5)
    have Oc := O5.put6 (b := w.heap.size) hb4 (.bool (qn p)) (.slice A4 (digs (qt p)).length c4) (.slice D4 (digs (qd p)).length d4) (.bool (qn q)) (.slice A5 (digs (qt q)).length c5) (.slice D5 (digs (qd q)).length d5)
    have Od := P5.put6 (b := w.heap.size) hb4 (.bool (qn p)) (.slice A4 (digs (qt p)).length c4) (.slice D4 (digs (qd p)).length d4) (.bool (qn q)) (.slice A5 (digs (qt q)).length c5) (.slice D5 (digs (qd q)).length d5)
    have r0' := s6.cell 0
    have r1' := s6.cell 1
    have r2' := s6.cell 2
    have r3' := s6.cell 3
    have r4' := s6.cell 4
    have r5' := s6.cell 5
    refine bodyPost_ret (v := .agg #[.bool (qn p), .slice A4 (digs (qt p)).length c4, .slice D4 (digs (qd p)).length d4, .bool (qn q), .slice A5 (digs (qt q)).length c5, .slice D5 (digs (qd q)).length d5]) (by simp [results, r0', r1', r2', r3', r4', r5', go_sem]) rfl ?_
    exact ⟨A4, c4, D4, d4, A5, c5, D5, d5, rfl, Oa.base_le (Nat.le_of_lt hb3), Ob.base_le (Nat.le_of_lt hb3), Oc.base_le (Nat.le_of_lt hb4), Od.base_le (Nat.le_of_lt hb4), B6⟩

  · obtain ⟨k, rfl⟩ : ∃ k : Nat, n = (k : Int) := Int.eq_ofNat_of_zero_le (by omega)
    have hk64 : k < 18446744073709551616 := by omega
    have hlk := digs_u64 hk64
    obtain ⟨p, hp, hp0⟩ : ∃ p : Rat, Hid (((sgn false k : Int) : Rat) = p) ∧ Hid (p = ((k : Int) : Rat)) := ⟨_, rfl, by show _ = _; rw [sgn_false]⟩
    have hof := of_any (k : Int) (w.alloc (.cells #[.bool false, .slice none 0 0, .slice none 0 0, .bool false, .slice none 0 0, .slice none 0 0] 26)) (by omega) (by omega)
    rw [Int.toNat_natCast] at hof
    have e2 : IntKind.u64.wrap (k : Int) = (k : Int) := by rw [IntKind.wrap_u64]; omega
    rw [← hp0.out, ← hq0.out]
    go_enter Tryz.func23, Tryz.ntmps23
    go_wp2_with fail
    refine hof.mono ?_; rintro e w3 ⟨A3, c3, rfl, O3, B3⟩
    have hw1 := whole_any false A3 c3 _ (digs k) w3 rfl O3.rw (Nrm_digs _) (by omega)
    rw [val_digs, hp.out] at hw1
    go_wp2_with fail
    refine hw1.mono ?_; rintro e w4 ⟨A4, c4, D4, d4, rfl, O4, P4, B4⟩
    have hw2 := whole_any false none 0 0 [] w4 rfl (RW.nil _ _ _ _) Nrm_nil (by simp)
    rw [hq.out] at hw2
    go_wp2_with fail
    refine hw2.mono ?_; rintro e w5 ⟨A5, c5, D5, d5, rfl, O5, P5, B5⟩
    have s5 := ((s1.nx B3).nx B4).nx B5
    have hRC := s5.rc (n := 6)
    have hb3 : w.heap.size < w3.heap.size := (s1.nx B3).2
    have hb4 : w.heap.size < w4.heap.size := ((s1.nx B3).nx B4).2
    go_wp2_with (refine wp_st6 rfl (.tmp 2) (.tmp 16) rfl _ rfl _ _ _ _ _ _ rfl hRC rfl rfl rfl rfl rfl rfl ?_)
    have s6 := hRC.put6 (.bool (qn p)) (.slice A4 (digs (qt p)).length c4) (.slice D4 (digs (qd p)).length d4) (.bool (qn q)) (.slice A5 (digs (qt q)).length c5) (.slice D5 (digs (qd q)).length d5)
    have B6 := wr6_below (b := w.heap.size) (bt (bt (bt B1 B3) B4) B5) (Nat.le_refl _) (.bool (qn p)) (.slice A4 (digs (qt p)).length c4) (.slice D4 (digs (qd p)).length d4) (.bool (qn q)) (.slice A5 (digs (qt q)).length c5) (.slice D5 (digs (qd q)).length d5)
    have Oa := (O4.below B5 (Nat.le_refl _)).put6 (b := w.heap.size) hb3 (.bool (qn p)) (.slice A4 (digs (qt p)).length c4) (.slice D4 (digs (qd p)).length d4) (.bool (qn q)) (.slice A5 (digs (qt q)).length c5) (.slice D5 (digs (qd q)).length d5)
    have Ob := (P4.below B5 (Nat.le_refl _)).put6 (b := w.heap.size) hb3 (.bool (qn p)) (.slice A4 (digs (qt p)).length c4) (.slice D4 (digs (qd p)).length d4) (.bool (qn q)) (.slice A5 (digs (qt q)).length c5) (.slice D5 (digs (qd q)).length d5)
    have Oc := O5.put6 (b := w.heap.size) hb4 (.bool (qn p)) (.slice A4 (digs (qt p)).length c4) (.slice D4 (digs (qd p)).length d4) (.bool (qn q)) (.slice A5 (digs (qt q)).length c5) (.slice D5 (digs (qd q)).length d5)
    have Od := P5.put6 (b := w.heap.size) hb4 (.bool (qn p)) (.slice A4 (digs (qt p)).length c4) (.slice D4 (digs (qd p)).length d4) (.bool (qn q)) (.slice A5 (digs (qt q)).length c5) (.slice D5 (digs (qd q)).length d5)
    have r0' := s6.cell 0
    have r1' := s6.cell 1
    have r2' := s6.cell 2
    have r3' := s6.cell 3
    have r4' := s6.cell 4
    have r5' := s6.cell 5
    refine bodyPost_ret (v := .agg #[.bool (qn p), .slice A4 (digs (qt p)).length c4, .slice D4 (digs (qd p)).length d4, .bool (qn q), .slice A5 (digs (qt q)).length c5, .slice D5 (digs (qd q)).length d5]) (by simp [results, r0', r1', r2', r3', r4', r5', go_sem]) rfl ?_
    exact ⟨A4, c4, D4, d4, A5, c5, D5, d5, rfl, Oa.base_le (Nat.le_of_lt hb3), Ob.base_le (Nat.le_of_lt hb3), Oc.base_le (Nat.le_of_lt hb4), Od.base_le (Nat.le_of_lt hb4), B6⟩


end Go.Proofs.YtbgggepdlkbpoaaGreatDoor
namespace Go.Proofs.YtbgggepdlkbpoaaGreatDoor
open Go.RowKit

theorem S3.put6 {w w1 : World} {b : Nat} {l1 l2 : List Value} (h : S3 w b l1 l2 6 w1) (x y z x' y' z' : Value) : S3 w b l1 l2 6 (Go.Proofs.YtbgggepdlkbpoaaGreatDoor.wr6 w1 (b + 2) x y z x' y' z') :=
  ⟨h.1.wr6 (by omega) x y z x' y' z', h.2.1.wr6 (by omega) x y z x' y' z', (h.2.2.1.put6 x y z x' y' z').rc, wr6_below h.2.2.2 (by omega) x y z x' y' z'⟩
/-- a number in memory: two rationals -/
def RN (w : World) (B : Nat) (v : Value) (x y : Rat) : Prop := VN w B v (rwq x) (rwq y)


end Go.Proofs.YtbgggepdlkbpoaaGreatDoor
