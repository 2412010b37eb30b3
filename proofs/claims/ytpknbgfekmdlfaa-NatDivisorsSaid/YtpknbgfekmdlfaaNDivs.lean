/- The walk of the law NatDivisors. -/
import Derived.Test.YtpknbgfekmdlfaaNDiv
import Derived.Test.YtpknbgfekmdlfaaNatP
namespace Go.Proofs.Ytpknbgfekmdlfaa
open Go.RowKit

theorem chk2_false {a b : List Nat} (h : chk2 a b = false) : soundB a = false ∨ (soundB a = true ∧ soundB b = false) := by
  unfold chk2 at h
  cases h1 : soundB a <;> simp_all
theorem gcdA_one {x y : Nat} (hx : (digs x).length ≤ 512) (hy : (digs y).length ≤ 512) (h : Nat.gcd x y = 1) : gcdA (digs x) (digs y) = (1, 0) := by
  unfold gcdA chk2
  rw [sound_digs hx, sound_digs hy, val_digs, val_digs, h]; rfl
theorem divA_exact {a : List Nat} {x g : Nat} (ha : soundB a = true) (hx : val a = x * g) (hg : g ≠ 0) (hl : (digs g).length ≤ 512) : divA a (digs g) = (x, 0, 0) := by
  have h0 : (digs g).length ≠ 0 := by
    intro h
    have h1 := val_digs g
    rw [List.length_eq_zero_iff] at h
    rw [h] at h1; exact hg h1.symm
  unfold divA chk2
  rw [ha, sound_digs hl, if_neg h0, val_digs, hx, Nat.mul_div_cancel _ (by omega), Nat.mul_mod_left]; rfl

set_option maxRecDepth 100000 in
set_option maxHeartbeats 4000000 in
theorem natDivisors_walk (A : Option Addr) (c : Nat) (a : List Nat) (D : Option Addr) (d : Nat) (b : List Nat) (w : World) (ha : RW w w.heap.size A c a) (hb : RW w w.heap.size D d b) :
    Calls Try.prog 8 #[.slice A a.length c, .slice D b.length d] w fun e w' => e = .returned (.bool true) ∧ Below w.heap.size w w' := by
  have hG := gcd_any A D c d _ _ a b w rfl rfl ha hb
  cases hs : chk2 a b with
  | false =>
    have e0 : gcdA a b = (0, 2) := by unfold gcdA; rw [hs]; rfl
    rw [e0] at hG
    have hsa := fun w' h => sound_any A c _ a w' rfl h
    have hsb := fun w' h => sound_any D d _ b w' rfl h
    clear e0
    rcases chk2_false hs with h1 | ⟨h1, h2⟩
    · rw [h1] at hsa
      clear hs h1
      go_enter Try.func8, Try.ntmps8
      go_wp2_with fail
      refine hG.mono ?_; rintro e w1 ⟨A1, c1, rfl, O1, B1⟩
      go_wp2_with fail
      refine (awake_any w1).mono ?_; rintro e w2 ⟨rfl, B2⟩
      go_wp2_with fail
      refine (awake_any w2).mono ?_; rintro e w3 ⟨rfl, B3⟩
      go_wp2_with fail
      have B := (B1.trans (B2.mono B1.size)).trans (B3.mono (Nat.le_trans B1.size B2.size))
      refine (hsa w3 (ha.step B B.size)).mono ?_; rintro e w4 ⟨rfl, rfl⟩
      go_wp2_with fail
      go_ret
      exact ⟨rfl, B⟩
    · rw [h1] at hsa
      rw [h2] at hsb
      clear hs h1 h2
      go_enter Try.func8, Try.ntmps8
      go_wp2_with fail
      refine hG.mono ?_; rintro e w1 ⟨A1, c1, rfl, O1, B1⟩
      go_wp2_with fail
      refine (awake_any w1).mono ?_; rintro e w2 ⟨rfl, B2⟩
      go_wp2_with fail
      refine (awake_any w2).mono ?_; rintro e w3 ⟨rfl, B3⟩
      go_wp2_with fail
      have B := (B1.trans (B2.mono B1.size)).trans (B3.mono (Nat.le_trans B1.size B2.size))
      refine (hsa w3 (ha.step B B.size)).mono ?_; rintro e w4 ⟨rfl, rfl⟩
      go_wp2_with fail
      refine (hsb _ (hb.step B B.size)).mono ?_; rintro e w4 ⟨rfl, rfl⟩
      go_wp2_with fail
      go_ret
      exact ⟨rfl, B⟩
  | true =>
    obtain ⟨k1, k2, k3, k4⟩ := big_of_chk hs
    have hsa : soundB a = true := by unfold chk2 at hs; simp only [Bool.and_eq_true] at hs; exact hs.1
    have hsb : soundB b = true := by unfold chk2 at hs; simp only [Bool.and_eq_true] at hs; exact hs.2
    have e0 : gcdA a b = (Nat.gcd (val a) (val b), 0) := by unfold gcdA; rw [hs]; rfl
    rw [e0] at hG
    clear e0 hs
    by_cases h0 : Nat.gcd (val a) (val b) = 0
    · have ha0 : a.length = 0 := by rw [k3, Nat.eq_zero_of_gcd_eq_zero_left h0, digs_zero]; rfl
      have hb0 : b.length = 0 := by rw [k4, Nat.eq_zero_of_gcd_eq_zero_right h0, digs_zero]; rfl
      have ta : ((a.length : Int) == 0) = true := by rw [ha0]; rfl
      have tb : ((b.length : Int) == 0) = true := by rw [hb0]; rfl
      rw [h0] at hG
      have hl : (digs 0).length = 0 := by rw [digs_zero]; rfl
      clear k1 k2 k3 k4 hsa hsb h0 ha0 hb0
      go_enter Try.func8, Try.ntmps8
      go_wp2_with fail
      refine hG.mono ?_; rintro e w1 ⟨A1, c1, rfl, O1, B1⟩
      go_wp2_with fail
      refine (awake_any w1).mono ?_; rintro e w2 ⟨rfl, B2⟩
      go_wp2_with fail
      go_ret
      exact ⟨rfl, B1.trans (B2.mono B1.size)⟩
    · obtain ⟨x, hx⟩ := Nat.gcd_dvd_left (val a) (val b)
      obtain ⟨y, hy⟩ := Nat.gcd_dvd_right (val a) (val b)
      generalize hGG : Nat.gcd (val a) (val b) = G at *
      have hg1 : Nat.gcd x y = 1 := by
        have h := Nat.gcd_mul_left G x y
        rw [← hx, ← hy, hGG] at h
        exact Nat.eq_of_mul_eq_mul_left (show 0 < G by omega) (by omega)
      have hva : val a < Wp 512 := digs_len_le.1 (by rw [← k3]; exact k1)
      have hvb : val b < Wp 512 := digs_len_le.1 (by rw [← k4]; exact k2)
      have hlx : (digs x).length ≤ 512 := digs_len_le.2 (Nat.lt_of_le_of_lt (by rw [hx]; exact Nat.le_mul_of_pos_left _ (by omega)) hva)
      have hly : (digs y).length ≤ 512 := digs_len_le.2 (Nat.lt_of_le_of_lt (by rw [hy]; exact Nat.le_mul_of_pos_left _ (by omega)) hvb)
      have hlg : (digs G).length ≤ 512 := by
        refine digs_len_le.2 ?_
        rcases Nat.eq_zero_or_pos x with h | h
        · have hy1 : 0 < y := by
            rcases Nat.eq_zero_or_pos y with h' | h'
            · rw [h, h'] at hg1; simp at hg1
            · exact h'
          exact Nat.lt_of_le_of_lt (by rw [hy]; exact Nat.le_mul_of_pos_right _ hy1) hvb
        · exact Nat.lt_of_le_of_lt (by rw [hx]; exact Nat.le_mul_of_pos_right _ h) hva
      have H2 := fun A1 c1 w' h1 h2 => div_any A A1 c c1 a.length (digs G).length a (digs G) w' rfl rfl h1 h2
      rw [divA_exact hsa (by rw [hx, Nat.mul_comm]) h0 hlg] at H2
      have H3 := fun A1 c1 w' h1 h2 => div_any D A1 d c1 b.length (digs G).length b (digs G) w' rfl rfl h1 h2
      rw [divA_exact hsb (by rw [hy, Nat.mul_comm]) h0 hlg] at H3
      have H4 := fun A1 c1 A2 c2 w' h1 h2 => gcd_any A1 A2 c1 c2 (digs x).length (digs y).length (digs x) (digs y) w' rfl rfl h1 h2
      rw [gcdA_one hlx hly hg1] at H4
      have e1 : digs 1 = [1] := digs_one (by omega) (by omega)
      have hl1 : (digs 1).length = 1 := by rw [e1]; rfl
      have hl0 : (digs 0).length = 0 := by rw [digs_zero]; rfl
      have hlG : 0 < (digs G).length := by
        rcases Nat.eq_zero_or_pos (digs G).length with h | h
        · have h1 := val_digs G
          rw [List.length_eq_zero_iff] at h
          rw [h] at h1; exact absurd h1.symm h0
        · exact h
      have tg : (((digs G).length : Int) == 0) = false := beq_eq_false_iff_ne.2 (by omega)
      clear hGG hx hy hg1 hva hvb hlx hly hlg k1 k2 k3 k4 hsa hsb h0
      go_enter Try.func8, Try.ntmps8
      go_wp2_with fail
      refine hG.mono ?_; rintro e w1 ⟨A1, c1, rfl, O1, B1⟩
      go_wp2_with fail
      refine (awake_any w1).mono ?_; rintro e w2 ⟨rfl, B2⟩
      go_wp2_with fail
      have B12 := B1.trans (B2.mono B1.size)
      refine (H2 A1 c1 w2 (ha.step B12 B12.size) (O1.rw.step B2 B2.size)).mono ?_; rintro e w3 ⟨A3, c3, A3', c3', rfl, O3, O3', B3⟩
      go_wp2_with fail
      have B13 := B12.trans (B3.mono B12.size)
      have B23 := B2.trans (B3.mono B2.size)
      refine (H3 A1 c1 w3 (hb.step B13 B13.size) (O1.rw.step B23 B23.size)).mono ?_; rintro e w4 ⟨A4, c4, A4', c4', rfl, O4, O4', B4⟩
      go_wp2_with fail
      have B14 := B13.trans (B4.mono B13.size)
      refine (H4 A3 c3 A4 c4 w4 (O3.rw.step B4 B4.size) O4.rw).mono ?_; rintro e w5 ⟨A5, c5, rfl, O5, B5⟩
      have B15 := B14.trans (B5.mono B14.size)
      rw [show digs (1, (0 : Int)).1 = [1] from e1] at O5
      rcases O5.form with ⟨_, _, he⟩ | ⟨g5, rfl, _, _, _⟩
      · simp at he
      have hc := O5.cell (k := 0) (by simp)
      have hw0 : wd [1] 0 = 1 := rfl
      rw [hw0] at hc
      go_wp2_with fail
      go_ret
      exact ⟨rfl, B15⟩
end Go.Proofs.Ytpknbgfekmdlfaa
