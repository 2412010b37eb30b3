/- The walk of the reference's Root, bit by bit. -/
import Derived.Test.YtpknbgfekmdlfaaNLaws
import Derived.Test.YtpknbgfekmdlfaaNatM
namespace Go.Proofs.Ytpknbgfekmdlfaa
open Go.RowKit

theorem rt_left {N s l k : Nat} (h : Rt N s l k) : l ≤ N := by have := h.1; omega
theorem rt_root {N s l k : Nat} (h : Rt N s l k) : s ≤ N := by
  have h1 := h.1
  rcases Nat.eq_zero_or_pos s with h0 | h0
  · omega
  · have := Nat.le_mul_of_pos_right s h0; omega
theorem pow_w {k : Nat} (h : k < 20000) : (digs (2 ^ k)).length ≤ 1000000 := digs_len_le.2 (Nat.lt_of_lt_of_eq (Nat.pow_lt_pow_right (by omega) (show k < 32 * 1000000 by omega)) (Wp_eq 1000000).symm)
theorem mul_pow_w {s k : Nat} (hs : s < Wp 512) (h : k < 20000) : (digs (s * 2 ^ k)).length ≤ 1000000 := by
  have h1 : 2 ^ k < Wp 700 := Nat.lt_of_lt_of_eq (Nat.pow_lt_pow_right (by omega) (show k < 32 * 700 by omega)) (Wp_eq 700).symm
  have h2 := mul_lt_Wp hs h1
  exact Nat.le_trans (digs_len_le.2 h2) (by omega)

set_option maxRecDepth 100000 in
set_option maxHeartbeats 4000000 in
theorem rroot_any (A : Option Addr) (c n : Nat) (a : List Nat) (w : World) (hn : n = a.length) (ha : RW w w.heap.size A c a) :
    Calls Try.prog 39 #[.slice A n c] w (RetD w (rootA a)) := by
  subst hn
  have ba := ha.b32
  have hsd := rsound_any A c _ a w rfl ha
  unfold rootA
  cases hs : soundB a with
  | false =>
    rw [hs] at hsd
    clear hs
    go_enter Try.func39, Try.ntmps39
    go_wp2_with fail
    refine hsd.mono ?_; rintro e w' ⟨rfl, rfl⟩
    go_wp2_with fail
    go_ret3
    exact retD_nil 2 (Below.refl _ _)
  | true =>
    rw [hs] at hsd
    obtain ⟨hl5, hda⟩ : a.length ≤ 512 ∧ a = digs (val a) := by simp only [soundB, decide_eq_true_eq] at hs; exact hs
    clear hs
    have hsz := fun w' h => rsize_any A c _ a w' rfl h
    have hnm := fun w' h => rnorm_any A c _ a w' rfl h
    have hbl : blen (val a) ≤ 16384 := Nat.le_trans (blen_le.2 (val_lt2 ba)) (by omega)
    have HN5 : Hid (val a < Wp 512) := Nat.lt_of_lt_of_le (val_lt ba) (Wp_mono hl5)
    generalize val a = N at *
    obtain ⟨k0, hk0⟩ : ∃ k0, k0 = (blen N + 1) / 2 := ⟨_, rfl⟩
    have hst : Hid (Rt N 0 N (k0 + 1)) := ⟨by omega, by rw [Nat.zero_add]; exact pow_sq (by omega)⟩
    generalize blen N = bn at *
    have hki : ((bn : Int) + 1) / 2 = (k0 : Int) := by omega
    have hkl : k0 ≤ 8192 := by omega
    have HDA := Lib.hid hda
    clear hda hk0
    simp only [if_true]
    have Ba : Below w.heap.size w (w.alloc (.cells #[] 33)) := (Below.refl _ _).alloc (Nat.le_refl _) _
    go_enter Try.func39, Try.ntmps39
    go_wp2_with fail
    refine hsd.mono ?_; rintro e w' ⟨rfl, rfl⟩
    go_wp2_with fail
    refine (hnm _ (stp ha Ba)).mono ?_; rintro e w2 ⟨A2, c2, rfl, O2, B2⟩
    have C2 := bt Ba B2
    go_wp2_with fail
    refine (hsz _ (stp ha C2)).mono ?_; rintro e w' ⟨rfl, rfl⟩
    go_wp2_with fail
    have HKI := Lib.hid hki
    clear hki
    go_loopg [5, 6, 7] (k0 + 1) (fun g sx lx kx wr => ∃ (k : Nat) (kk : Int) (s l : Nat) (As : Option Addr) (cs : Nat) (Al : Option Addr) (cl : Nat), k = g ∧ sx = .slice As (digs s).length cs ∧ lx = .slice Al (digs l).length cl ∧ kx = .int .i64 kk ∧ Hid (kk = (k : Int) - 1) ∧ k ≤ 8193 ∧
      OW wr w.heap.size As cs (digs s) ∧ OW wr w.heap.size Al cl (digs l) ∧ Hid (Rt N s l k) ∧ Below w.heap.size w wr)
    case atStart =>
      refine ⟨k0 + 1, (k0 : Int), 0, N, some ⟨w.heap.size, 0, none⟩, 0, A2, c2, rfl, ?_, rfl, (by rw [HKI.out]), (by show _ = _; omega), by omega, ?_, O2.base_le Ba.size, hst, C2⟩
      · rw [digs_zero]; rfl
      · rw [digs_zero]; exact (OW.empty w).below B2 (Nat.le_refl _)
    case round =>
      obtain ⟨k, kk, s, l, As, cs, Al, cl, rfl, rfl, rfl, rfl, hkk, hk, Os, Ol, hR, B⟩ := hrel
      by_cases hk0 : 0 < k
      · obtain ⟨j, rfl⟩ : ∃ j, k = j + 1 := ⟨k - 1, by omega⟩
        obtain rfl : kk = (j : Int) := by have := hkk.out; omega
        have hs5 : s < Wp 512 := Nat.lt_of_le_of_lt (rt_root hR.out) HN5.out
        have hl5' : l < Wp 512 := Nat.lt_of_le_of_lt (rt_left hR.out) HN5.out
        have ls : (digs s).length ≤ 512 := digs_len_le.2 hs5
        have ll : (digs l).length ≤ 512 := digs_len_le.2 hl5'
        have L1 := mul_pow_w (s := s) (k := j + 1) hs5 (by omega)
        have L2 := pow_w (k := 2 * j) (by omega)
        have L3 := pow_w (k := j) (by omega)
        have H1 : Calls Try.prog 69 #[.slice As (digs s).length cs, .int .i64 ((j : Int) + 1)] wr (RetW wr (s * 2 ^ (j + 1))) := by
          have h := rup_any As cs _ (digs s) wr (j + 1) (by omega) rfl Os.rw (by omega)
          rw [val_digs] at h; exact h
        have H2 : ∀ w1 : World, Calls Try.prog 69 #[.slice (some ⟨w1.heap.size, 0, none⟩) 1 1, .int .i64 (2 * (j : Int))] (w1.alloc (.cells #[.int .u32 (1 : Nat)] 33)) (RetW (w1.alloc (.cells #[.int .u32 (1 : Nat)] 33)) (2 ^ (2 * j))) := fun w1 => by
          have h := rup_any (some ⟨w1.heap.size, 0, none⟩) 1 1 [1] (w1.alloc (.cells #[.int .u32 (1 : Nat)] 33)) (2 * j) (by omega) rfl ((RW.one w1 33 (show 1 < 4294967296 by omega)).more (by simp)) (by simp)
          rw [val_one, Nat.one_mul, Int.natCast_mul] at h; exact h
        have H3 := fun A1 c1 A2 c2 w' h1 h2 => rplus_any A1 A2 c1 c2 _ _ (digs (s * 2 ^ (j + 1))) (digs (2 ^ (2 * j))) w' rfl rfl h1 h2 (by omega) (by omega)
        rw [val_digs, val_digs] at H3
        have em : s * 2 ^ (j + 1) + 2 ^ (2 * j) = rmore s j := rfl
        rw [em] at H3
        have H4 := fun A1 c1 w' h1 h2 => rorder_any A1 Al c1 cl _ _ (digs (rmore s j)) (digs l) w' rfl rfl h1 h2 (Nrm_digs _) (Nrm_digs _)
        rw [val_digs, val_digs] at H4
        have EM := Lib.hid em
        clear em
        generalize s * 2 ^ (j + 1) = v1 at *
        generalize 2 ^ (2 * j) = v2 at *
        by_cases hm : rmore s j ≤ l
        · have hcm : cmpN (rmore s j) l ≤ 0 := by unfold cmpN; split <;> (try split) <;> omega
          generalize cmpN (rmore s j) l = cm at *
          have hll : (digs (rmore s j)).length ≤ (digs l).length := len_of_le (B32_digs l) (Nrm_digs _) (by rw [val_digs, val_digs]; exact hm)
          have H5 := fun A1 c1 w' h1 h2 => rless_any Al A1 cl c1 _ _ (digs l) (digs (rmore s j)) w' rfl rfl h1 h2 hll (by rw [val_digs, val_digs]; exact hm) (by omega)
          rw [val_digs, val_digs] at H5
          have H6 : ∀ w1 : World, Calls Try.prog 69 #[.slice (some ⟨w1.heap.size, 0, none⟩) 1 1, .int .i64 (j : Int)] (w1.alloc (.cells #[.int .u32 (1 : Nat)] 33)) (RetW (w1.alloc (.cells #[.int .u32 (1 : Nat)] 33)) (2 ^ j)) := fun w1 => by
            have h := rup_any (some ⟨w1.heap.size, 0, none⟩) 1 1 [1] (w1.alloc (.cells #[.int .u32 (1 : Nat)] 33)) j (by omega) rfl ((RW.one w1 33 (show 1 < 4294967296 by omega)).more (by simp)) (by simp)
            rw [val_one, Nat.one_mul] at h; exact h
          have H7 := fun A2 c2 w' h1 h2 => rplus_any As A2 cs c2 _ _ (digs s) (digs (2 ^ j)) w' rfl rfl h1 h2 (by omega) (by omega)
          rw [val_digs, val_digs] at H7
          have hR2 := Lib.hid (rt_yes hR.out hm)
          generalize 2 ^ j = pj at *
          clear hm hll ls ll L1 L2 L3 hs5 hl5'
          go_wp2_with fail
          refine H1.mono ?_; rintro e w3 ⟨A3, c3, rfl, O3, B3⟩
          go_wp2_with fail
          have Bb : Below w3.heap.size w3 (w3.alloc (.cells #[.int .u32 (1 : Nat)] 33)) := (Below.refl _ _).alloc (Nat.le_refl _) _
          refine (H2 w3).mono ?_; rintro e w4 ⟨A4, c4, rfl, O4, B4⟩
          have D34 := bt Bb B4
          go_wp2_with fail
          refine (H3 A3 c3 A4 c4 w4 (stp O3.rw D34) O4.rw).mono ?_; rintro e w5 ⟨A5, c5, rfl, O5, B5⟩
          go_wp2_with fail
          have D05 := bt (bt B3 D34) B5
          refine (H4 A5 c5 w5 O5.rw (stp Ol.rw D05)).mono ?_; rintro e w6 ⟨rfl, q, rfl⟩
          go_wp2_with fail
          refine (H5 A5 c5 _ ((stp Ol.rw D05).drewN q) (O5.rw.drewN q)).mono ?_; rintro e w7 ⟨A7, c7, rfl, O7, B7⟩
          go_wp2_with fail
          have Bc : Below w7.heap.size w7 (w7.alloc (.cells #[.int .u32 (1 : Nat)] 33)) := (Below.refl _ _).alloc (Nat.le_refl _) _
          refine (H6 w7).mono ?_; rintro e w8 ⟨A8, c8, rfl, O8, B8⟩
          go_wp2_with fail
          have D78 := bt Bc B8
          have D08 := bt (bt (bdN D05 q) B7) D78
          refine (H7 A8 c8 w8 (stp Os.rw D08) O8.rw).mono ?_; rintro e w9 ⟨A9, c9, rfl, O9, B9⟩
          go_wp2_with fail
          have E7 := bt (bdN (bt B D05) q) B7
          have E8 := bt E7 D78
          go_roundg j
          case measure => omega
          case rel => exact ⟨j, (j : Int) - 1, s + pj, l - rmore s j, A9, c9, A7, c7, rfl, rfl, rfl, rfl, (by show _ = _; rfl), by omega, O9.base_le E8.size, (O7.below (bt D78 B9) (Nat.le_refl _)).base_le (bdN (bt B D05) q).size, hR2, bt E8 B9⟩
        · have hcm : ¬ cmpN (rmore s j) l ≤ 0 := by unfold cmpN; rw [if_neg (by omega), if_neg (by omega)]; omega
          generalize cmpN (rmore s j) l = cm at *
          have hR2 := Lib.hid (rt_no hR.out (by omega))
          clear hm ls ll L1 L2 L3 hs5 hl5'
          go_wp2_with fail
          refine H1.mono ?_; rintro e w3 ⟨A3, c3, rfl, O3, B3⟩
          go_wp2_with fail
          have Bb : Below w3.heap.size w3 (w3.alloc (.cells #[.int .u32 (1 : Nat)] 33)) := (Below.refl _ _).alloc (Nat.le_refl _) _
          refine (H2 w3).mono ?_; rintro e w4 ⟨A4, c4, rfl, O4, B4⟩
          have D34 := bt Bb B4
          go_wp2_with fail
          refine (H3 A3 c3 A4 c4 w4 (stp O3.rw D34) O4.rw).mono ?_; rintro e w5 ⟨A5, c5, rfl, O5, B5⟩
          go_wp2_with fail
          have D05 := bt (bt B3 D34) B5
          refine (H4 A5 c5 w5 O5.rw (stp Ol.rw D05)).mono ?_; rintro e w6 ⟨rfl, q, rfl⟩
          go_wp2_with fail
          go_roundg j
          case measure => omega
          case rel => exact ⟨j, (j : Int) - 1, s, l, As, cs, Al, cl, rfl, rfl, rfl, rfl, (by show _ = _; rfl), by omega, (Os.below D05 (Nat.le_refl _)).drewN q, (Ol.below D05 (Nat.le_refl _)).drewN q, hR2, bdN (bt B D05) q⟩
      · obtain rfl : k = 0 := by omega
        obtain rfl : kk = -1 := by have := hkk.out; omega
        obtain ⟨e1, e2⟩ := rt_end hR.out
        have E1 := Lib.hid e1
        have E2 := Lib.hid e2
        clear e1 e2
        go_wp2_with fail
        go_ret3
        refine ⟨As, cs, Al, cl, ?_, ?_, ?_, B⟩
        · rw [← E2.out, ← E1.out]; rfl
        · rw [← E1.out]; exact Os
        · rw [← E2.out]; exact Ol
end Go.Proofs.Ytpknbgfekmdlfaa
