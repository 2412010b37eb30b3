/- Walks: the same words, the same fractions, the same numbers; whole numbers. -/
import Derived.Test.YtabcnpcfknlmlaaRatS
namespace Go.Proofs.Ytabcnpcfknlmlaa
open Go.RowKit

theorem below_dr {w w2 : World} {q : Nat} (h : w2 = w.drewN q) : Below w.heap.size w w2 := by rw [h]; exact bdN (Below.refl _ _) q
theorem equal_any (A D : Option Addr) (c d n m : Nat) (a b : List Nat) (w : World) (hn : n = a.length) (hm : m = b.length) (ha : RW w w.heap.size A c a) (hb : RW w w.heap.size D d b) :
    Calls Try.prog 43 #[.slice A n c, .slice D m d] w fun e w' => e = .returned (.bool (decide (a = b))) ∧ ∃ q, w' = w.drewN q := by
  subst hn hm
  have hba := ha.big
  have hbb := hb.big
  by_cases hlen : a.length = b.length
  · have hl1 : ((a.length : Int) != (b.length : Int)) = false := by simp; omega
    have HL := Lib.hid hlen
    have hlt : ¬ a.length < b.length := by omega
    have hgt : ¬ b.length < a.length := by omega
    clear hlen
    go_enter Try.func43, Try.ntmps43
    go_wp2
    go_loopw [13] (fun i wr => ∃ k : Nat, k ≤ a.length ∧ i = .int .i64 (k : Int) ∧ Hid (a.take k = b.take k) ∧ ∃ q, wr = w.drewN q) (fun i _ => (a.length - intOf i).toNat)
    case atStart => exact ⟨0, Nat.zero_le _, rfl, rfl, 0, rfl⟩
    case round =>
      obtain ⟨k, hk, rfl, hk2, q, rfl⟩ := hrel
      by_cases h0 : k < a.length
      · obtain ⟨b1, o1, rfl, _, hx⟩ := ha.at_ (by omega)
        obtain ⟨b2, o2, rfl, _, hy⟩ := hb.at_ (by omega)
        have hxk := hx k (by omega)
        have hyk := hy k (by omega)
        clear ha hb hx hy
        by_cases h1 : wd a k = wd b k
        · have t1 : ((wd a k : Int) != (wd b k : Int)) = false := by simp; omega
          have HR := Lib.hid (same_step h0 HL.out hk2.out h1)
          clear h1
          go_wp2
          go_quiet (fail)
          go_wp2
          go_roundw
          case rel => exact ⟨k + 1, by omega, by go_num, HR, _, rfl⟩
          case measure => simp [intOf]; omega
        · have t1 : ((wd a k : Int) != (wd b k : Int)) = true := by simp; omega
          go_wp2
          go_quiet (fail)
          go_wp2
          go_ret
          refine ⟨ret_bool ?_, drw _ _⟩
          rw [decide_eq_false (fun e => h1 (by rw [e]))]
      · obtain rfl : k = a.length := by omega
        go_wp2
        go_ret
        refine ⟨?_, q, rfl⟩
        have h2 := hk2.out
        rw [List.take_length, HL.out, List.take_length] at h2
        exact ret_bool (by rw [decide_eq_true h2])
  · have hl1 : ((a.length : Int) != (b.length : Int)) = true := by simp; omega
    go_enter Try.func43, Try.ntmps43
    go_wp2
    go_ret
    exact ⟨ret_bool (by rw [decide_eq_false (fun e => hlen (by rw [e]))]), 0, rfl⟩


def fsB (s : Bool) (a b : List Nat) (s' : Bool) (a' b' : List Nat) : Bool := (s == s') && (decide (a = a') && decide (b = b'))
theorem fsB_iff {s s' : Bool} {a b a' b' : List Nat} : fsB s a b s' a' b' = true ↔ s = s' ∧ a = a' ∧ b = b' := by
  unfold fsB; simp only [Bool.and_eq_true, beq_iff_eq, decide_eq_true_eq]
theorem fsB_q {p q : Rat} : fsB (qn p) (digs (qt p)) (digs (qd p)) (qn q) (digs (qt q)) (digs (qd q)) = decide (p = q) := by
  rw [Bool.eq_iff_iff, fsB_iff, decide_eq_true_eq]
  exact ⟨fun ⟨h1, h2, h3⟩ => q_ext h1 (digs_inj h2) (digs_inj h3), fun h => by rw [h]; exact ⟨rfl, rfl, rfl⟩⟩


set_option maxHeartbeats 2000000 in
theorem same1_any (v u : Value) (s : Bool) (a b : List Nat) (s' : Bool) (a' b' : List Nat) (w : World) (hv : VR w w.heap.size v s a b) (hu : VR w w.heap.size u s' a' b') :
    Calls Try.prog 42 #[v, u] w fun e w' => e = .returned (.bool (fsB s a b s' a' b')) ∧ Below w.heap.size w w' := by
  obtain ⟨A, c, D, d, rfl, ra, rb⟩ := hv
  obtain ⟨E, e0, H, h0, rfl, rc, rd⟩ := hu
  have B1 := bal w (.cells #[.bool s, .slice A a.length c, .slice D b.length d] 25)
  have B2 := bal (w.alloc (.cells #[.bool s, .slice A a.length c, .slice D b.length d] 25)) (.cells #[.bool s', .slice E a'.length e0, .slice H b'.length h0] 25)
  have C2 := bt B1 B2
  have z1 : (w.alloc (.cells #[.bool s, .slice A a.length c, .slice D b.length d] 25)).heap.size = w.heap.size + 1 := by simp
  have S1 := (SB.new w [.bool s, .slice A a.length c, .slice D b.length d] 25).nx B2
  have S2 := SB.new (w.alloc (.cells #[.bool s, .slice A a.length c, .slice D b.length d] 25)) [.bool s', .slice E a'.length e0, .slice H b'.length h0] 25
  rw [z1] at S2
  have m0 := S1.cell 0
  have m1 := S1.cell 1
  have m2 := S1.cell 2
  have n0 := S2.cell 0
  have n1 := S2.cell 1
  have n2 := S2.cell 2
  have h1 := equal_any A E c e0 _ _ a a' _ rfl rfl (st ra C2) (st rc C2)
  have h2 := fun w' B => equal_any D H d h0 _ _ b b' w' rfl rfl (st (st rb C2) B) (st (st rd C2) B)
  unfold fsB
  cases hs : s == s' with
  | false =>
    go_enter Try.func42, Try.ntmps42
    go_wp2_with fail
    go_ret
    exact ⟨rfl, C2⟩
  | true =>
    cases ht : decide (a = a') with
    | false =>
      rw [ht] at h1
      clear ht
      go_enter Try.func42, Try.ntmps42
      go_wp2_with fail
      refine h1.mono ?_; rintro e w3 ⟨rfl, q3, rfl⟩
      go_wp2_with fail
      go_ret
      exact ⟨rfl, bdN C2 q3⟩
    | true =>
      rw [ht] at h1
      clear ht
      go_enter Try.func42, Try.ntmps42
      go_wp2_with fail
      refine h1.mono ?_; rintro e w3 ⟨rfl, q3, h3⟩
      have B3 := below_dr h3
      clear h3
      have k2 := (S1.nx B3).cell 2
      have j2 := (S2.nx B3).cell 2
      go_wp2_with fail
      refine (h2 _ B3).mono ?_; rintro e w4 ⟨rfl, q4, rfl⟩
      go_wp2_with fail
      go_ret
      exact ⟨by simp only [Bool.true_and]; rfl, bdN (bt C2 B3) q4⟩


set_option maxHeartbeats 2000000 in
theorem ratSame_any (v u : Value) (s : Bool) (a b : List Nat) (s' : Bool) (a' b' : List Nat) (w : World) (hv : VR w w.heap.size v s a b) (hu : VR w w.heap.size u s' a' b') :
    Calls Try.prog 39 #[v, u] w fun e w' => e = .returned (.bool (fsB s a b s' a' b')) ∧ Below w.heap.size w w' := by
  obtain ⟨A, c, D, d, rfl, ra, rb⟩ := hv
  obtain ⟨E, e0, H, h0, rfl, rc, rd⟩ := hu
  have B1 := bal w (.cells #[.bool s, .slice A a.length c, .slice D b.length d] 25)
  have B2 := bal (w.alloc (.cells #[.bool s, .slice A a.length c, .slice D b.length d] 25)) (.cells #[.bool s', .slice E a'.length e0, .slice H b'.length h0] 25)
  have C2 := bt B1 B2
  have z1 : (w.alloc (.cells #[.bool s, .slice A a.length c, .slice D b.length d] 25)).heap.size = w.heap.size + 1 := by simp
  have S1 := (SB.new w [.bool s, .slice A a.length c, .slice D b.length d] 25).nx B2
  have S2 := SB.new (w.alloc (.cells #[.bool s, .slice A a.length c, .slice D b.length d] 25)) [.bool s', .slice E a'.length e0, .slice H b'.length h0] 25
  rw [z1] at S2
  have m0 := S1.cell 0
  have m1 := S1.cell 1
  have m2 := S1.cell 2
  have n0 := S2.cell 0
  have n1 := S2.cell 1
  have n2 := S2.cell 2
  have h1 := same_any A E c e0 _ _ a a' _ rfl rfl (st ra C2) (st rc C2)
  have h2 := fun w' B => same_any D H d h0 _ _ b b' w' rfl rfl (st (st rb C2) B) (st (st rd C2) B)
  unfold fsB
  cases hs : s == s' with
  | false =>
    go_enter Try.func39, Try.ntmps39
    go_wp2_with fail
    go_ret
    exact ⟨rfl, C2⟩
  | true =>
    cases ht : decide (a = a') with
    | false =>
      rw [ht] at h1
      clear ht
      go_enter Try.func39, Try.ntmps39
      go_wp2_with fail
      refine h1.mono ?_; rintro e w3 ⟨rfl, q3, rfl⟩
      go_wp2_with fail
      go_ret
      exact ⟨rfl, bdN C2 q3⟩
    | true =>
      rw [ht] at h1
      clear ht
      go_enter Try.func39, Try.ntmps39
      go_wp2_with fail
      refine h1.mono ?_; rintro e w3 ⟨rfl, q3, h3⟩
      have B3 := below_dr h3
      clear h3
      have k2 := (S1.nx B3).cell 2
      have j2 := (S2.nx B3).cell 2
      go_wp2_with fail
      refine (h2 _ B3).mono ?_; rintro e w4 ⟨rfl, q4, rfl⟩
      go_wp2_with fail
      go_ret
      exact ⟨by simp only [Bool.true_and]; rfl, bdN (bt C2 B3) q4⟩


def sameB (r i r' i' : Rw) : Bool := nB r i && (nB r' i' && (fsB r.s r.a r.b r'.s r'.a r'.b && fsB i.s i.a i.b i'.s i'.a i'.b))
def alikeB (r i r' i' : Rw) : Bool := fsB r.s r.a r.b r'.s r'.a r'.b && fsB i.s i.a i.b i'.s i'.a i'.b
theorem vrs {w w' : World} {A : Option Addr} {c : Nat} {D : Option Addr} {d : Nat} {s : Bool} {a b : List Nat} (h1 : RW w w.heap.size A c a) (h2 : RW w w.heap.size D d b) (B : Below w.heap.size w w') :
    VR w' w'.heap.size (.agg #[.bool s, .slice A a.length c, .slice D b.length d]) s a b := ⟨A, c, D, d, rfl, st h1 B, st h2 B⟩
theorem vns {w w' : World} {A : Option Addr} {c : Nat} {D : Option Addr} {d : Nat} {s : Bool} {a b : List Nat} {A2 : Option Addr} {c2 : Nat} {D2 : Option Addr} {d2 : Nat} {s2 : Bool} {a2 b2 : List Nat}
    (h1 : RW w w.heap.size A c a) (h2 : RW w w.heap.size D d b) (h3 : RW w w.heap.size A2 c2 a2) (h4 : RW w w.heap.size D2 d2 b2) (B : Below w.heap.size w w') :
    VN w' w'.heap.size (.agg #[.bool s, .slice A a.length c, .slice D b.length d, .bool s2, .slice A2 a2.length c2, .slice D2 b2.length d2]) ⟨s, a, b⟩ ⟨s2, a2, b2⟩ :=
  ⟨A, c, D, d, A2, c2, D2, d2, rfl, st h1 B, st h2 B, st h3 B, st h4 B⟩


set_option maxHeartbeats 4000000 in
theorem esame_any (v u : Value) (r i r' i' : Rw) (w : World) (hv : VN w w.heap.size v r i) (hu : VN w w.heap.size u r' i') :
    Calls Try.prog 15 #[v, u] w fun e w' => e = .returned (.bool (sameB r i r' i')) ∧ Below w.heap.size w w' := by
  obtain ⟨s11, a11, b11⟩ := r
  obtain ⟨s12, a12, b12⟩ := i
  obtain ⟨A11, c11, D11, d11, A12, c12, D12, d12, rfl, r11, r12, r13, r14⟩ := hv
  dsimp only at r11 r12 r13 r14 ⊢
  obtain ⟨s21, a21, b21⟩ := r'
  obtain ⟨s22, a22, b22⟩ := i'
  obtain ⟨A21, c21, D21, d21, A22, c22, D22, d22, rfl, r21, r22, r23, r24⟩ := hu
  dsimp only at r21 r22 r23 r24 ⊢
  have B1 := bal w (.cells #[.bool s11, .slice A11 a11.length c11, .slice D11 b11.length d11, .bool s12, .slice A12 a12.length c12, .slice D12 b12.length d12] 27)
  have B2 := bal (w.alloc (.cells #[.bool s11, .slice A11 a11.length c11, .slice D11 b11.length d11, .bool s12, .slice A12 a12.length c12, .slice D12 b12.length d12] 27)) (.cells #[.bool s21, .slice A21 a21.length c21, .slice D21 b21.length d21, .bool s22, .slice A22 a22.length c22, .slice D22 b22.length d22] 27)
  have C2 := bt B1 B2
  have z1 : (w.alloc (.cells #[.bool s11, .slice A11 a11.length c11, .slice D11 b11.length d11, .bool s12, .slice A12 a12.length c12, .slice D12 b12.length d12] 27)).heap.size = w.heap.size + 1 := by simp
  have S1 := (SB.new w [.bool s11, .slice A11 a11.length c11, .slice D11 b11.length d11, .bool s12, .slice A12 a12.length c12, .slice D12 b12.length d12] 27).nx B2
  have S2 := SB.new (w.alloc (.cells #[.bool s11, .slice A11 a11.length c11, .slice D11 b11.length d11, .bool s12, .slice A12 a12.length c12, .slice D12 b12.length d12] 27)) [.bool s21, .slice A21 a21.length c21, .slice D21 b21.length d21, .bool s22, .slice A22 a22.length c22, .slice D22 b22.length d22] 27
  rw [z1] at S2
  have m0 := (S1).cell 0
  have m1 := (S1).cell 1
  have m2 := (S1).cell 2
  have m3 := (S1).cell 3
  have m4 := (S1).cell 4
  have m5 := (S1).cell 5
  have n0 := (S2).cell 0
  have n1 := (S2).cell 1
  have n2 := (S2).cell 2
  have n3 := (S2).cell 3
  have n4 := (S2).cell 4
  have n5 := (S2).cell 5
  show Calls _ _ _ _ fun e w' => e = .returned (.bool (nB ⟨s11, a11, b11⟩ ⟨s12, a12, b12⟩ && (nB ⟨s21, a21, b21⟩ ⟨s22, a22, b22⟩ && (fsB s11 a11 b11 s21 a21 b21 && fsB s12 a12 b12 s22 a22 b22)))) ∧ _
  have h0 := fun w' B => esound_any (.agg #[.bool s11, .slice A11 a11.length c11, .slice D11 b11.length d11, .bool s12, .slice A12 a12.length c12, .slice D12 b12.length d12]) ⟨s11, a11, b11⟩ ⟨s12, a12, b12⟩ w' (vns r11 r12 r13 r14 (bt C2 B))
  have h1 := fun w' B => esound_any (.agg #[.bool s21, .slice A21 a21.length c21, .slice D21 b21.length d21, .bool s22, .slice A22 a22.length c22, .slice D22 b22.length d22]) ⟨s21, a21, b21⟩ ⟨s22, a22, b22⟩ w' (vns r21 r22 r23 r24 (bt C2 B))
  have h2 := fun w' B => same1_any (.agg #[.bool s11, .slice A11 a11.length c11, .slice D11 b11.length d11]) (.agg #[.bool s21, .slice A21 a21.length c21, .slice D21 b21.length d21]) s11 a11 b11 s21 a21 b21 w' (vrs r11 r12 (bt C2 B)) (vrs r21 r22 (bt C2 B))
  have h3 := fun w' B => same1_any (.agg #[.bool s12, .slice A12 a12.length c12, .slice D12 b12.length d12]) (.agg #[.bool s22, .slice A22 a22.length c22, .slice D22 b22.length d22]) s12 a12 b12 s22 a22 b22 w' (vrs r13 r14 (bt C2 B)) (vrs r23 r24 (bt C2 B))
  cases t0 : nB ⟨s11, a11, b11⟩ ⟨s12, a12, b12⟩ with
  | false =>
    simp only [t0] at h0
    clear t0
    go_enter Try.func15, Try.ntmps15
    go_wp2_with fail
    refine (h0 _ (Below.refl _ _)).mono ?_; rintro e w0 ⟨rfl, F0⟩
    have E0 := F0
    go_wp2_with fail
    go_ret
    exact ⟨rfl, bt C2 E0⟩
  | true =>
    simp only [t0] at h0
    clear t0
    cases t1 : nB ⟨s21, a21, b21⟩ ⟨s22, a22, b22⟩ with
    | false =>
      simp only [t1] at h1
      clear t1
      go_enter Try.func15, Try.ntmps15
      go_wp2_with fail
      refine (h0 _ (Below.refl _ _)).mono ?_; rintro e w0 ⟨rfl, F0⟩
      have E0 := F0
      have m10 := (S1.nx E0).cell 0
      have m11 := (S1.nx E0).cell 1
      have m12 := (S1.nx E0).cell 2
      have m13 := (S1.nx E0).cell 3
      have m14 := (S1.nx E0).cell 4
      have m15 := (S1.nx E0).cell 5
      have n10 := (S2.nx E0).cell 0
      have n11 := (S2.nx E0).cell 1
      have n12 := (S2.nx E0).cell 2
      have n13 := (S2.nx E0).cell 3
      have n14 := (S2.nx E0).cell 4
      have n15 := (S2.nx E0).cell 5
      go_wp2_with fail
      refine (h1 _ E0).mono ?_; rintro e w1 ⟨rfl, F1⟩
      have E1 := bt E0 F1
      go_wp2_with fail
      go_ret
      exact ⟨rfl, bt C2 E1⟩
    | true =>
      simp only [t1] at h1
      clear t1
      cases t2 : fsB s11 a11 b11 s21 a21 b21 with
      | false =>
        simp only [t2] at h2
        clear t2
        go_enter Try.func15, Try.ntmps15
        go_wp2_with fail
        refine (h0 _ (Below.refl _ _)).mono ?_; rintro e w0 ⟨rfl, F0⟩
        have E0 := F0
        have m10 := (S1.nx E0).cell 0
        have m11 := (S1.nx E0).cell 1
        have m12 := (S1.nx E0).cell 2
        have m13 := (S1.nx E0).cell 3
        have m14 := (S1.nx E0).cell 4
        have m15 := (S1.nx E0).cell 5
        have n10 := (S2.nx E0).cell 0
        have n11 := (S2.nx E0).cell 1
        have n12 := (S2.nx E0).cell 2
        have n13 := (S2.nx E0).cell 3
        have n14 := (S2.nx E0).cell 4
        have n15 := (S2.nx E0).cell 5
        go_wp2_with fail
        refine (h1 _ E0).mono ?_; rintro e w1 ⟨rfl, F1⟩
        have E1 := bt E0 F1
        have m20 := (S1.nx E1).cell 0
        have m21 := (S1.nx E1).cell 1
        have m22 := (S1.nx E1).cell 2
        have m23 := (S1.nx E1).cell 3
        have m24 := (S1.nx E1).cell 4
        have m25 := (S1.nx E1).cell 5
        have n20 := (S2.nx E1).cell 0
        have n21 := (S2.nx E1).cell 1
        have n22 := (S2.nx E1).cell 2
        have n23 := (S2.nx E1).cell 3
        have n24 := (S2.nx E1).cell 4
        have n25 := (S2.nx E1).cell 5
        go_wp2_with fail
        refine (h2 _ E1).mono ?_; rintro e w2 ⟨rfl, F2⟩
        have E2 := bt E1 F2
        go_wp2_with fail
        go_ret
        exact ⟨rfl, bt C2 E2⟩
      | true =>
        simp only [t2] at h2
        clear t2
        go_enter Try.func15, Try.ntmps15
        go_wp2_with fail
        refine (h0 _ (Below.refl _ _)).mono ?_; rintro e w0 ⟨rfl, F0⟩
        have E0 := F0
        have m10 := (S1.nx E0).cell 0
        have m11 := (S1.nx E0).cell 1
        have m12 := (S1.nx E0).cell 2
        have m13 := (S1.nx E0).cell 3
        have m14 := (S1.nx E0).cell 4
        have m15 := (S1.nx E0).cell 5
        have n10 := (S2.nx E0).cell 0
        have n11 := (S2.nx E0).cell 1
        have n12 := (S2.nx E0).cell 2
        have n13 := (S2.nx E0).cell 3
        have n14 := (S2.nx E0).cell 4
        have n15 := (S2.nx E0).cell 5
        go_wp2_with fail
        refine (h1 _ E0).mono ?_; rintro e w1 ⟨rfl, F1⟩
        have E1 := bt E0 F1
        have m20 := (S1.nx E1).cell 0
        have m21 := (S1.nx E1).cell 1
        have m22 := (S1.nx E1).cell 2
        have m23 := (S1.nx E1).cell 3
        have m24 := (S1.nx E1).cell 4
        have m25 := (S1.nx E1).cell 5
        have n20 := (S2.nx E1).cell 0
        have n21 := (S2.nx E1).cell 1
        have n22 := (S2.nx E1).cell 2
        have n23 := (S2.nx E1).cell 3
        have n24 := (S2.nx E1).cell 4
        have n25 := (S2.nx E1).cell 5
        go_wp2_with fail
        refine (h2 _ E1).mono ?_; rintro e w2 ⟨rfl, F2⟩
        have E2 := bt E1 F2
        have m30 := (S1.nx E2).cell 0
        have m31 := (S1.nx E2).cell 1
        have m32 := (S1.nx E2).cell 2
        have m33 := (S1.nx E2).cell 3
        have m34 := (S1.nx E2).cell 4
        have m35 := (S1.nx E2).cell 5
        have n30 := (S2.nx E2).cell 0
        have n31 := (S2.nx E2).cell 1
        have n32 := (S2.nx E2).cell 2
        have n33 := (S2.nx E2).cell 3
        have n34 := (S2.nx E2).cell 4
        have n35 := (S2.nx E2).cell 5
        go_wp2_with fail
        refine (h3 _ E2).mono ?_; rintro e w3 ⟨rfl, F3⟩
        have E3 := bt E2 F3
        go_wp2_with fail
        go_ret
        exact ⟨by simp only [Bool.true_and]; rfl, bt C2 E3⟩


set_option maxHeartbeats 4000000 in
theorem alike_any (v u : Value) (r i r' i' : Rw) (w : World) (hv : VN w w.heap.size v r i) (hu : VN w w.heap.size u r' i') :
    Calls Try.prog 11 #[v, u] w fun e w' => e = .returned (.bool (alikeB r i r' i')) ∧ Below w.heap.size w w' := by
  obtain ⟨s11, a11, b11⟩ := r
  obtain ⟨s12, a12, b12⟩ := i
  obtain ⟨A11, c11, D11, d11, A12, c12, D12, d12, rfl, r11, r12, r13, r14⟩ := hv
  dsimp only at r11 r12 r13 r14 ⊢
  obtain ⟨s21, a21, b21⟩ := r'
  obtain ⟨s22, a22, b22⟩ := i'
  obtain ⟨A21, c21, D21, d21, A22, c22, D22, d22, rfl, r21, r22, r23, r24⟩ := hu
  dsimp only at r21 r22 r23 r24 ⊢
  have B1 := bal w (.cells #[.bool s11, .slice A11 a11.length c11, .slice D11 b11.length d11, .bool s12, .slice A12 a12.length c12, .slice D12 b12.length d12] 27)
  have B2 := bal (w.alloc (.cells #[.bool s11, .slice A11 a11.length c11, .slice D11 b11.length d11, .bool s12, .slice A12 a12.length c12, .slice D12 b12.length d12] 27)) (.cells #[.bool s21, .slice A21 a21.length c21, .slice D21 b21.length d21, .bool s22, .slice A22 a22.length c22, .slice D22 b22.length d22] 27)
  have C2 := bt B1 B2
  have z1 : (w.alloc (.cells #[.bool s11, .slice A11 a11.length c11, .slice D11 b11.length d11, .bool s12, .slice A12 a12.length c12, .slice D12 b12.length d12] 27)).heap.size = w.heap.size + 1 := by simp
  have S1 := (SB.new w [.bool s11, .slice A11 a11.length c11, .slice D11 b11.length d11, .bool s12, .slice A12 a12.length c12, .slice D12 b12.length d12] 27).nx B2
  have S2 := SB.new (w.alloc (.cells #[.bool s11, .slice A11 a11.length c11, .slice D11 b11.length d11, .bool s12, .slice A12 a12.length c12, .slice D12 b12.length d12] 27)) [.bool s21, .slice A21 a21.length c21, .slice D21 b21.length d21, .bool s22, .slice A22 a22.length c22, .slice D22 b22.length d22] 27
  rw [z1] at S2
  have m0 := (S1).cell 0
  have m1 := (S1).cell 1
  have m2 := (S1).cell 2
  have m3 := (S1).cell 3
  have m4 := (S1).cell 4
  have m5 := (S1).cell 5
  have n0 := (S2).cell 0
  have n1 := (S2).cell 1
  have n2 := (S2).cell 2
  have n3 := (S2).cell 3
  have n4 := (S2).cell 4
  have n5 := (S2).cell 5
  show Calls _ _ _ _ fun e w' => e = .returned (.bool (fsB s11 a11 b11 s21 a21 b21 && fsB s12 a12 b12 s22 a22 b22)) ∧ _
  have h0 := fun w' B => ratSame_any (.agg #[.bool s11, .slice A11 a11.length c11, .slice D11 b11.length d11]) (.agg #[.bool s21, .slice A21 a21.length c21, .slice D21 b21.length d21]) s11 a11 b11 s21 a21 b21 w' (vrs r11 r12 (bt C2 B)) (vrs r21 r22 (bt C2 B))
  have h1 := fun w' B => ratSame_any (.agg #[.bool s12, .slice A12 a12.length c12, .slice D12 b12.length d12]) (.agg #[.bool s22, .slice A22 a22.length c22, .slice D22 b22.length d22]) s12 a12 b12 s22 a22 b22 w' (vrs r13 r14 (bt C2 B)) (vrs r23 r24 (bt C2 B))
  cases t0 : fsB s11 a11 b11 s21 a21 b21 with
  | false =>
    simp only [t0] at h0
    clear t0
    go_enter Try.func11, Try.ntmps11
    go_wp2_with fail
    refine (h0 _ (Below.refl _ _)).mono ?_; rintro e w0 ⟨rfl, F0⟩
    have E0 := F0
    go_wp2_with fail
    go_ret
    exact ⟨rfl, bt C2 E0⟩
  | true =>
    simp only [t0] at h0
    clear t0
    go_enter Try.func11, Try.ntmps11
    go_wp2_with fail
    refine (h0 _ (Below.refl _ _)).mono ?_; rintro e w0 ⟨rfl, F0⟩
    have E0 := F0
    have m10 := (S1.nx E0).cell 0
    have m11 := (S1.nx E0).cell 1
    have m12 := (S1.nx E0).cell 2
    have m13 := (S1.nx E0).cell 3
    have m14 := (S1.nx E0).cell 4
    have m15 := (S1.nx E0).cell 5
    have n10 := (S2.nx E0).cell 0
    have n11 := (S2.nx E0).cell 1
    have n12 := (S2.nx E0).cell 2
    have n13 := (S2.nx E0).cell 3
    have n14 := (S2.nx E0).cell 4
    have n15 := (S2.nx E0).cell 5
    go_wp2_with fail
    refine (h1 _ E0).mono ?_; rintro e w1 ⟨rfl, F1⟩
    have E1 := bt E0 F1
    go_wp2_with fail
    go_ret
    exact ⟨by simp only [Bool.true_and]; rfl, bt C2 E1⟩

end Go.Proofs.Ytabcnpcfknlmlaa
