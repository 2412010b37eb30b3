/- The walk of the law NatRoots. -/
import Derived.Test.YtpknbgfekmdlfaaNRoot
import Derived.Test.YtpknbgfekmdlfaaNatP
import Derived.Test.YtpknbgfekmdlfaaNatI
namespace Go.Proofs.Ytpknbgfekmdlfaa
open Go.RowKit

theorem addA_small {x y : Nat} (hx : (digs x).length ≤ 512) (hy : (digs y).length ≤ 512) (h : (digs (x + y)).length ≤ 512) : addA (digs x) (digs y) = (x + y, 0) := by
  unfold addA fitA chk2
  rw [sound_digs hx, sound_digs hy, val_digs, val_digs, if_pos h]; rfl
theorem mulA_small {x y : Nat} (hx : (digs x).length ≤ 512) (hy : (digs y).length ≤ 512) (h : (digs (x * y)).length ≤ 512) : mulA (digs x) (digs y) = (x * y, 0) := by
  unfold mulA fitA chk2
  rw [sound_digs hx, sound_digs hy, val_digs, val_digs, if_pos h]; rfl
theorem cmpA_small {x y : Nat} (hx : (digs x).length ≤ 512) (hy : (digs y).length ≤ 512) : cmpA (digs x) (digs y) = cmpN x y := by
  unfold cmpA chk2
  rw [sound_digs hx, sound_digs hy, val_digs, val_digs]; rfl
theorem len_digs {N k : Nat} (h : N < Wp k) (hk : k ≤ 512) : (digs N).length ≤ 512 := Nat.le_trans (digs_len_le.2 h) hk
theorem Wp_lt (k : Nat) : Wp k + 1 ≤ Wp (k + 1) := by rw [Wp_succ]; have := Wp_pos k; omega
theorem sq_lt {s k : Nat} (h : s * s < Wp (2 * k)) : s < Wp k := by
  rcases Nat.lt_or_ge s (Wp k) with h1 | h1
  · exact h1
  · have h2 := Nat.mul_le_mul h1 h1
    rw [← Wp_add, show k + k = 2 * k by omega] at h2; omega

set_option maxRecDepth 100000 in
set_option maxHeartbeats 4000000 in
theorem natRoots_walk (A : Option Addr) (c : Nat) (a : List Nat) (w : World) (ha : RW w w.heap.size A c a) :
    Calls Try.prog 10 #[.slice A a.length c] w fun e w' => e = .returned (.bool true) ∧ Below w.heap.size w w' := by
  have hR := root_any A c _ a w rfl ha
  have hbig := ha.big
  cases hs : soundB a with
  | false =>
    have e0 : rootA a = (0, 0, 2) := by unfold rootA; rw [hs]; rfl
    rw [e0] at hR
    have hsa := fun w' h => sound_any A c _ a w' rfl h
    rw [hs] at hsa
    clear e0 hs
    go_enter Try.func10, Try.ntmps10
    go_wp2_with fail
    refine hR.mono ?_; rintro e w1 ⟨A1, c1, A1', c1', rfl, O1, O1', B1⟩
    go_wp2_with fail
    refine (awake_any w1).mono ?_; rintro e w2 ⟨rfl, B2⟩
    go_wp2_with fail
    refine (awake_any w2).mono ?_; rintro e w3 ⟨rfl, B3⟩
    go_wp2_with fail
    have B := (B1.trans (B2.mono B1.size)).trans (B3.mono (Nat.le_trans B1.size B2.size))
    refine (hsa w3 (ha.step B B.size)).mono ?_; rintro e w4 ⟨rfl, rfl⟩
    go_wp2_with fail
    go_ret
    exact ⟨rfl, B⟩
  | true =>
    obtain ⟨hl5, hda⟩ : a.length ≤ 512 ∧ a = digs (val a) := by simp only [soundB, decide_eq_true_eq] at hs; exact hs
    have e0 : rootA a = (isq (val a), val a - isq (val a) * isq (val a), 0) := by unfold rootA; rw [hs]; rfl
    rw [e0] at hR
    clear e0 hs
    by_cases h500 : 500 < a.length
    · have h5 : decide ((500 : Int) < (a.length : Int)) = true := by simp; omega
      clear hda
      go_enter Try.func10, Try.ntmps10
      go_wp2_with fail
      refine hR.mono ?_; rintro e w1 ⟨A1, c1, A1', c1', rfl, O1, O1', B1⟩
      go_wp2_with fail
      refine (awake_any w1).mono ?_; rintro e w2 ⟨rfl, B2⟩
      go_wp2_with fail
      refine (awake_any w2).mono ?_; rintro e w3 ⟨rfl, B3⟩
      go_wp2_with fail
      go_ret
      have B := (B1.trans (B2.mono B1.size)).trans (B3.mono (Nat.le_trans B1.size B2.size))
      exact ⟨rfl, B⟩
    · have h5 : decide ((500 : Int) < (a.length : Int)) = false := by simp; omega
      obtain ⟨hs1, hs2⟩ := isq_spec (val a)
      generalize hsv : isq (val a) = s at *
      have hva : val a < Wp 500 := Nat.lt_of_lt_of_le (val_lt ha.b32) (Wp_mono (by omega))
      have hsw : s < Wp 250 := sq_lt (k := 250) (Nat.lt_of_le_of_lt hs1 hva)
      have hl1 : (digs s).length ≤ 512 := len_digs hsw (by omega)
      have hl2 : (digs (s * s)).length ≤ 512 := len_digs (Nat.lt_of_le_of_lt hs1 hva) (by omega)
      have hl3 : (digs (val a - s * s)).length ≤ 512 := len_digs (Nat.lt_of_le_of_lt (Nat.sub_le _ _) hva) (by omega)
      have hl4 : (digs 1).length ≤ 512 := by rw [digs_one (by omega) (by omega)]; simp
      have hl5' : (digs (s + 1)).length ≤ 512 := len_digs (k := 251) (Nat.lt_of_lt_of_le (show s + 1 < Wp 250 + 1 by omega) (Wp_lt 250)) (by omega)
      have hl6 : (digs ((s + 1) * (s + 1))).length ≤ 512 := by
        refine len_digs (k := 501) ?_ (by omega)
        have h1 := Nat.mul_le_mul (show s + 1 ≤ Wp 250 from hsw) (show s + 1 ≤ Wp 250 from hsw)
        rw [← Wp_add, show 250 + 250 = 500 from rfl] at h1
        have h2 := Wp_lt 500
        rw [show 500 + 1 = 501 from rfl] at h2
        omega
      have hl7 : (digs (val a)).length ≤ 512 := by rw [← hda]; exact hl5
      have hsum : s * s + (val a - s * s) = val a := by omega
      have H1 := fun A1 c1 w' h1 => mul_any A1 A1 c1 c1 _ _ (digs s) (digs s) w' rfl rfl h1 h1
      rw [mulA_small hl1 hl1 hl2] at H1
      have H2 := fun A1 c1 A2 c2 w' h1 h2 => add_any A1 A2 c1 c2 _ _ (digs (s * s)) (digs (val a - s * s)) w' rfl rfl h1 h2
      rw [addA_small hl2 hl3 (by rw [hsum]; exact hl7), hsum] at H2
      have H3 := fun A1 c1 A2 w' h1 h2 => add_any A1 A2 c1 1 (digs s).length 1 (digs s) [1] w' rfl rfl h1 h2
      have e1 : digs 1 = [1] := digs_one (by omega) (by omega)
      have e2 := addA_small hl1 hl4 hl5'
      rw [e1] at e2
      rw [e2] at H3
      have H4 := fun A1 c1 w' h1 => mul_any A1 A1 c1 c1 _ _ (digs (s + 1)) (digs (s + 1)) w' rfl rfl h1 h1
      rw [mulA_small hl5' hl5' hl6] at H4
      have H5 := fun A1 c1 w' h1 h2 => cmp_any A1 A c1 c _ a.length (digs (s * s)) a w' rfl rfl h1 h2
      have e3 := cmpA_small hl2 hl7
      rw [← hda] at e3
      rw [e3] at H5
      have H6 := fun A1 c1 w' h1 h2 => cmp_any A1 A c1 c _ a.length (digs ((s + 1) * (s + 1))) a w' rfl rfl h1 h2
      have e4 := cmpA_small hl6 hl7
      rw [← hda] at e4
      have hc6 : cmpN ((s + 1) * (s + 1)) (val a) = 1 := by unfold cmpN; rw [if_neg (by omega), if_neg (by omega)]
      rw [e4, hc6] at H6
      have hc5 : cmpN (s * s) (val a) ≤ 0 := by unfold cmpN; split <;> (try split) <;> omega
      generalize cmpN (s * s) (val a) = cm at *
      have HDA := Lib.hid hda
      clear hsv hs1 hs2 hva hsw hl1 hl2 hl3 hl4 hl5' hl6 hl7 hsum e1 e2 e3 e4 hc6 hl5 hda h500
      go_enter Try.func10, Try.ntmps10
      go_wp2_with fail
      refine hR.mono ?_; rintro e w1 ⟨A1, c1, A1', c1', rfl, O1, O1', B1⟩
      go_wp2_with fail
      refine (awake_any w1).mono ?_; rintro e w2 ⟨rfl, B2⟩
      go_wp2_with fail
      have C2 := B1.trans (B2.mono B1.size)
      refine (H1 A1 c1 w2 (O1.rw.step B2 B2.size)).mono ?_; rintro e w3 ⟨A3, c3, rfl, O3, B3⟩
      go_wp2_with fail
      have D3 := B2.trans (B3.mono B2.size)
      have C3 := C2.trans (B3.mono C2.size)
      refine (H2 A3 c3 A1' c1' w3 O3.rw (O1'.rw.step D3 D3.size)).mono ?_; rintro e w4 ⟨A4, c4, rfl, O4, B4⟩
      go_wp2_with fail
      have D4 := D3.trans (B4.mono D3.size)
      have C4 := C3.trans (B4.mono C3.size)
      have Ba : Below w4.heap.size w4 (w4.alloc (.cells #[.int .u32 (1 : Nat)] 33)) := (Below.refl _ _).alloc (Nat.le_refl _) _
      have D4a := D4.trans (Ba.mono D4.size)
      have C4a := C4.trans (Ba.mono C4.size)
      refine (H3 A1 c1 _ _ (O1.rw.step D4a D4a.size) ((RW.one w4 33 (show 1 < 4294967296 by omega)).more (by simp))).mono ?_; rintro e w5 ⟨A5, c5, rfl, O5, B5⟩
      go_wp2_with fail
      have C5 := C4a.trans (B5.mono C4a.size)
      refine (H4 A5 c5 w5 O5.rw).mono ?_; rintro e w6 ⟨A6, c6, rfl, O6, B6⟩
      go_wp2_with fail
      have C6 := C5.trans (B6.mono C5.size)
      have E6 := Ba.trans ((B5.trans (B6.mono B5.size)).mono Ba.size)
      have E63 := (B4.trans (E6.mono B4.size))
      have R4 : RW w6 w6.heap.size A4 c4 a := by
        have h := O4.rw.step E6 E6.size
        rwa [← HDA.out] at h
      have hlen : (digs (val a)).length = a.length := by rw [← HDA.out]
      refine (same_eq A4 A c4 c _ _ a _ hlen rfl R4 (ha.step C6 C6.size)).mono ?_; rintro e w7 ⟨rfl, q, rfl⟩
      go_wp2_with fail
      refine (H5 A3 c3 _ ((O3.rw.step E63 E63.size).drewN q) ((ha.step C6 C6.size).drewN q)).mono ?_; rintro e w7 ⟨rfl, q2, rfl⟩
      go_wp2_with fail
      refine (H6 A6 c6 _ (O6.rw.drewN (q + q2)) ((ha.step C6 C6.size).drewN (q + q2))).mono ?_; rintro e w7 ⟨rfl, q3, rfl⟩
      go_wp2_with fail
      go_ret
      exact ⟨rfl, bdN C6 (q + q2 + q3)⟩
end Go.Proofs.Ytpknbgfekmdlfaa
