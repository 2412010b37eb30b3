/- The walk of the law NatLaws. -/
import Derived.Test.YtpknbgfekmdlfaaNRoots
namespace Go.Proofs.Ytpknbgfekmdlfaa
open Go.RowKit

theorem bt {w w1 w2 : World} (h1 : Below w.heap.size w w1) (h2 : Below w1.heap.size w1 w2) : Below w.heap.size w w2 := h1.trans (h2.mono h1.size)
theorem stp {w w' : World} {A : Option Addr} {c : Nat} {l : List Nat} (h : RW w w.heap.size A c l) (b : Below w.heap.size w w') : RW w' w'.heap.size A c l := h.step b b.size
theorem same_b (A D : Option Addr) (c d n m : Nat) (a b : List Nat) (w : World) (hn : n = a.length) (hm : m = b.length) (hab : a = b) (ha : RW w w.heap.size A c a) (hb : RW w w.heap.size D d b) :
    Calls Try.prog 15 #[.slice A n c, .slice D m d] w fun e w' => e = .returned (.bool true) ∧ Below w.heap.size w w' := by
  subst hab
  refine (same_eq A D c d n m a w hn hm ha hb).mono ?_
  rintro e w' ⟨rfl, q, rfl⟩
  exact ⟨rfl, bdN (Below.refl _ _) q⟩
theorem cmp_b (A D : Option Addr) (c d n m : Nat) (a b : List Nat) (w : World) (hn : n = a.length) (hm : m = b.length) (ha : RW w w.heap.size A c a) (hb : RW w w.heap.size D d b) :
    Calls Try.prog 20 #[.slice A n c, .slice D m d] w fun e w' => e = .returned (.int .i64 (cmpA a b)) ∧ Below w.heap.size w w' := by
  refine (cmp_any A D c d n m a b w hn hm ha hb).mono ?_
  rintro e w' ⟨rfl, q, rfl⟩
  exact ⟨rfl, bdN (Below.refl _ _) q⟩
theorem subA_small {x y : Nat} (hx : (digs x).length ≤ 512) (hy : (digs y).length ≤ 512) (h : y ≤ x) : subA (digs x) (digs y) = (x - y, 0) := by
  unfold subA chk2
  rw [sound_digs hx, sound_digs hy, val_digs, val_digs, if_pos (show (true && true) = true from rfl), if_neg (by omega)]
theorem rootA_sq {x : Nat} (h : (digs (x * x)).length ≤ 512) : rootA (digs (x * x)) = (x, 0, 0) := by
  unfold rootA
  rw [sound_digs h, val_digs, isq_sq, Nat.sub_self]; rfl
theorem divA_small {x y : Nat} (hx : (digs x).length ≤ 512) (hy : (digs y).length ≤ 512) (h : (digs y).length ≠ 0) : divA (digs x) (digs y) = (x / y, x % y, 0) := by
  unfold divA chk2
  rw [sound_digs hx, sound_digs hy, val_digs, val_digs, if_neg h]; rfl
theorem mul_lt_Wp {x y i j : Nat} (hx : x < Wp i) (hy : y < Wp j) : x * y < Wp (i + j) := by rw [Wp_add]; exact Nat.mul_lt_mul'' hx hy
theorem add_lt_Wp {x y i : Nat} (hx : x < Wp i) (hy : y < Wp i) : x + y < Wp (i + 1) := by have := Wp_lt i; rw [Wp_succ] at *; omega

set_option maxRecDepth 100000 in
set_option maxHeartbeats 8000000 in
theorem natLaws_walk (A : Option Addr) (ca : Nat) (a : List Nat) (D : Option Addr) (cb : Nat) (b : List Nat) (E : Option Addr) (cc : Nat) (c : List Nat) (w : World) (ha : RW w w.heap.size A ca a) (hb : RW w w.heap.size D cb b) (hc : RW w w.heap.size E cc c) :
    Calls Try.prog 11 #[.slice A a.length ca, .slice D b.length cb, .slice E c.length cc] w fun e w' => e = .returned (.bool true) ∧ Below w.heap.size w w' := by
  have hba := ha.big
  have hbb := hb.big
  have hbc := hc.big
  have hsa := fun w' h => sound_any A ca _ a w' rfl h
  have hsb := fun w' h => sound_any D cb _ b w' rfl h
  have hsc := fun w' h => sound_any E cc _ c w' rfl h
  by_cases la : 100 < a.length
  · have ta : decide ((100 : Int) < (a.length : Int)) = true := by simp; omega
    go_enter Try.func11, Try.ntmps11
    go_wp2_with fail
    refine (awake_any _).mono ?_; rintro e w1 ⟨rfl, B1⟩
    go_wp2_with fail
    refine (awake_any _).mono ?_; rintro e w2 ⟨rfl, B2⟩
    go_wp2_with fail
    go_ret
    exact ⟨rfl, (bt B1 B2)⟩
  have ta : decide ((100 : Int) < (a.length : Int)) = false := by simp; omega
  by_cases lb : 100 < b.length
  · have tb : decide ((100 : Int) < (b.length : Int)) = true := by simp; omega
    go_enter Try.func11, Try.ntmps11
    go_wp2_with fail
    refine (awake_any _).mono ?_; rintro e w1 ⟨rfl, B1⟩
    go_wp2_with fail
    refine (awake_any _).mono ?_; rintro e w2 ⟨rfl, B2⟩
    go_wp2_with fail
    go_ret
    exact ⟨rfl, (bt B1 B2)⟩
  have tb : decide ((100 : Int) < (b.length : Int)) = false := by simp; omega
  by_cases lc : 100 < c.length
  · have tc : decide ((100 : Int) < (c.length : Int)) = true := by simp; omega
    go_enter Try.func11, Try.ntmps11
    go_wp2_with fail
    refine (awake_any _).mono ?_; rintro e w1 ⟨rfl, B1⟩
    go_wp2_with fail
    refine (awake_any _).mono ?_; rintro e w2 ⟨rfl, B2⟩
    go_wp2_with fail
    go_ret
    exact ⟨rfl, (bt B1 B2)⟩
  have tc : decide ((100 : Int) < (c.length : Int)) = false := by simp; omega
  cases sa : soundB a with
  | false =>
    rw [sa] at hsa
    clear sa
    go_enter Try.func11, Try.ntmps11
    go_wp2_with fail
    refine (awake_any _).mono ?_; rintro e w1 ⟨rfl, B1⟩
    go_wp2_with fail
    refine (hsa _ (stp ha B1)).mono ?_; rintro e w' ⟨rfl, rfl⟩
    go_wp2_with fail
    refine (awake_any _).mono ?_; rintro e w2 ⟨rfl, B2⟩
    go_wp2_with fail
    go_ret
    exact ⟨rfl, (bt B1 B2)⟩
  | true =>
    rw [sa] at hsa
    have Hda : Hid (a = digs (val a)) := by simp only [soundB, decide_eq_true_eq] at sa; exact sa.2
    clear sa
    cases sb : soundB b with
    | false =>
      rw [sb] at hsb
      clear sb
      go_enter Try.func11, Try.ntmps11
      go_wp2_with fail
      refine (awake_any _).mono ?_; rintro e w1 ⟨rfl, B1⟩
      go_wp2_with fail
      refine (hsa _ (stp ha B1)).mono ?_; rintro e w' ⟨rfl, rfl⟩
      go_wp2_with fail
      refine (hsb _ (stp hb B1)).mono ?_; rintro e w' ⟨rfl, rfl⟩
      go_wp2_with fail
      refine (awake_any _).mono ?_; rintro e w2 ⟨rfl, B2⟩
      go_wp2_with fail
      go_ret
      exact ⟨rfl, (bt B1 B2)⟩
    | true =>
      rw [sb] at hsb
      have Hdb : Hid (b = digs (val b)) := by simp only [soundB, decide_eq_true_eq] at sb; exact sb.2
      clear sb
      cases sc : soundB c with
      | false =>
        rw [sc] at hsc
        clear sc
        go_enter Try.func11, Try.ntmps11
        go_wp2_with fail
        refine (awake_any _).mono ?_; rintro e w1 ⟨rfl, B1⟩
        go_wp2_with fail
        refine (hsa _ (stp ha B1)).mono ?_; rintro e w' ⟨rfl, rfl⟩
        go_wp2_with fail
        refine (hsb _ (stp hb B1)).mono ?_; rintro e w' ⟨rfl, rfl⟩
        go_wp2_with fail
        refine (hsc _ (stp hc B1)).mono ?_; rintro e w' ⟨rfl, rfl⟩
        go_wp2_with fail
        refine (awake_any _).mono ?_; rintro e w2 ⟨rfl, B2⟩
        go_wp2_with fail
        go_ret
        exact ⟨rfl, (bt B1 B2)⟩
      | true =>
        rw [sc] at hsc
        have Hdc : Hid (c = digs (val c)) := by simp only [soundB, decide_eq_true_eq] at sc; exact sc.2
        clear sc
        have ka : val a < Wp 100 := Nat.lt_of_lt_of_le (val_lt ha.b32) (Wp_mono (by omega))
        have kb : val b < Wp 100 := Nat.lt_of_lt_of_le (val_lt hb.b32) (Wp_mono (by omega))
        have kc : val c < Wp 100 := Nat.lt_of_lt_of_le (val_lt hc.b32) (Wp_mono (by omega))
        obtain ⟨x, hx⟩ : ∃ x, x = val a := ⟨_, rfl⟩
        obtain ⟨y, hy⟩ : ∃ y, y = val b := ⟨_, rfl⟩
        obtain ⟨z, hz⟩ : ∃ z, z = val c := ⟨_, rfl⟩
        have hda := Hda.out
        have hdb := Hdb.out
        have hdc := Hdc.out
        rw [← hx] at hda ka
        rw [← hy] at hdb kb
        rw [← hz] at hdc kc
        have L1 : (digs x).length ≤ 512 := len_digs ka (by omega)
        have L2 : (digs y).length ≤ 512 := len_digs kb (by omega)
        have L3 : (digs z).length ≤ 512 := len_digs kc (by omega)
        have L4 : (digs (y + z)).length ≤ 512 := len_digs (add_lt_Wp kb kc) (by omega)
        have L5 : (digs (x * (y + z))).length ≤ 512 := len_digs (mul_lt_Wp ka (add_lt_Wp kb kc)) (by omega)
        have L6 : (digs (x * y)).length ≤ 512 := len_digs (mul_lt_Wp ka kb) (by omega)
        have L7 : (digs (z * x)).length ≤ 512 := len_digs (mul_lt_Wp kc ka) (by omega)
        have L8 : (digs (x * y + z * x)).length ≤ 512 := len_digs (add_lt_Wp (mul_lt_Wp ka kb) (mul_lt_Wp kc ka)) (by omega)
        have L9 : (digs (x * x)).length ≤ 512 := len_digs (mul_lt_Wp ka ka) (by omega)
        have L10 : (digs (x / y)).length ≤ 512 := len_digs (Nat.lt_of_le_of_lt (Nat.div_le_self _ _) ka) (by omega)
        have L11 : (digs (x % y)).length ≤ 512 := len_digs (Nat.lt_of_le_of_lt (Nat.mod_le _ _) ka) (by omega)
        have L12 : (digs (x / y * y)).length ≤ 512 := len_digs (Nat.lt_of_le_of_lt (Nat.div_mul_le_self _ _) ka) (by omega)
        have eS : x / y * y + x % y = x := Nat.div_add_mod' x y
        have eD : y + z - z = y := by omega
        have H1 := fun w' h1 h2 => add_any D E cb cc _ _ b c w' rfl rfl h1 h2
        have e1 := addA_small L2 L3 L4; rw [← hdb, ← hdc] at e1; rw [e1] at H1
        have H2 := fun A1 c1 w' h1 h2 => mul_any A A1 ca c1 _ _ a (digs (y + z)) w' rfl rfl h1 h2
        have e2 := mulA_small L1 L4 L5; rw [← hda] at e2; rw [e2] at H2
        have H3 := fun w' h1 h2 => mul_any A D ca cb _ _ a b w' rfl rfl h1 h2
        have e3 := mulA_small L1 L2 L6; rw [← hda, ← hdb] at e3; rw [e3] at H3
        have H4 := fun w' h1 h2 => mul_any E A cc ca _ _ c a w' rfl rfl h1 h2
        have e4 := mulA_small L3 L1 L7; rw [← hda, ← hdc] at e4; rw [e4] at H4
        have H5 := fun A3 c3 A4 c4 w' h1 h2 => add_any A3 A4 c3 c4 _ _ (digs (x * y)) (digs (z * x)) w' rfl rfl h1 h2
        rw [addA_small L6 L7 L8] at H5
        have H6 := fun A1 c1 w' h1 h2 => sub_any A1 E c1 cc _ _ (digs (y + z)) c w' rfl rfl h1 h2
        have e6 := subA_small L4 L3 (show z ≤ y + z by omega); rw [← hdc, eD] at e6; rw [e6] at H6
        have H7 := fun w' h1 => mul_any A A ca ca _ _ a a w' rfl rfl h1 h1
        have e7 := mulA_small L1 L1 L9; rw [← hda] at e7; rw [e7] at H7
        have H8 := fun A7 c7 w' h1 => root_any A7 c7 _ (digs (x * x)) w' rfl h1
        rw [rootA_sq L9] at H8
        have S1 := fun A1 c1 A2 c2 w' h1 h2 => same_b A1 A2 c1 c2 _ _ (digs (x * (y + z))) (digs (x * y + z * x)) w' rfl rfl (by rw [Nat.mul_add, Nat.mul_comm x z]) h1 h2
        have S2 := fun A1 c1 w' h1 h2 => same_b A1 D c1 cb _ _ (digs y) b w' rfl rfl hdb.symm h1 h2
        have S3 := fun A1 c1 w' h1 h2 => same_b A1 A c1 ca _ _ (digs x) a w' rfl rfl hda.symm h1 h2
        have l0 : (digs 0).length = 0 := by rw [digs_zero]; rfl
        have H9 := fun w' h1 h2 => div_any A D ca cb _ _ a b w' rfl rfl h1 h2
        by_cases h0 : b.length = 0
        · have tz : ((b.length : Int) == 0) = true := by rw [h0]; rfl
          have e9 : divA a b = (0, 0, 3) := by unfold divA chk2; rw [hda, hdb, sound_digs L1, sound_digs L2]; rw [← hdb, if_pos h0]; rfl
          rw [e9] at H9
          have CL := Lib.hid (And.intro hda hdb)
          clear hx hy hz hda hdb hdc ka kb kc L1 L2 L3 L4 L5 L6 L7 L8 L9 L10 L11 L12 eS eD e1 e2 e3 e4 e6 e7 e9 h0
          go_enter Try.func11, Try.ntmps11
          go_wp2_with fail
          refine (awake_any _).mono ?_; rintro e w1 ⟨rfl, B1⟩
          go_wp2_with fail
          refine (hsa _ (stp ha B1)).mono ?_; rintro e w' ⟨rfl, rfl⟩
          go_wp2_with fail
          refine (hsb _ (stp hb B1)).mono ?_; rintro e w' ⟨rfl, rfl⟩
          go_wp2_with fail
          refine (hsc _ (stp hc B1)).mono ?_; rintro e w' ⟨rfl, rfl⟩
          go_wp2_with fail
          refine (H1 _ (stp hb B1) (stp hc B1)).mono ?_; rintro e w2 ⟨A2, c2, rfl, O2, B2⟩
          go_wp2_with fail
          refine (H2 A2 c2 _ (stp ha (bt B1 B2)) O2.rw).mono ?_; rintro e w3 ⟨A3, c3, rfl, O3, B3⟩
          go_wp2_with fail
          refine (H3 _ (stp ha (bt (bt B1 B2) B3)) (stp hb (bt (bt B1 B2) B3))).mono ?_; rintro e w4 ⟨A4, c4, rfl, O4, B4⟩
          go_wp2_with fail
          refine (H4 _ (stp hc (bt (bt (bt B1 B2) B3) B4)) (stp ha (bt (bt (bt B1 B2) B3) B4))).mono ?_; rintro e w5 ⟨A5, c5, rfl, O5, B5⟩
          go_wp2_with fail
          refine (H5 A4 c4 A5 c5 _ (stp O4.rw B5) O5.rw).mono ?_; rintro e w6 ⟨A6, c6, rfl, O6, B6⟩
          go_wp2_with fail
          refine (H6 A2 c2 _ (stp O2.rw (bt (bt (bt B3 B4) B5) B6)) (stp hc (bt (bt (bt (bt (bt B1 B2) B3) B4) B5) B6))).mono ?_; rintro e w7 ⟨A7, c7, rfl, O7, B7⟩
          go_wp2_with fail
          refine (H7 _ (stp ha (bt (bt (bt (bt (bt (bt B1 B2) B3) B4) B5) B6) B7))).mono ?_; rintro e w8 ⟨A8, c8, rfl, O8, B8⟩
          go_wp2_with fail
          refine (H8 A8 c8 _ O8.rw).mono ?_; rintro e w9 ⟨A9, c9, A9', c9', rfl, O9, O9', B9⟩
          go_wp2_with fail
          refine (S1 A3 c3 A6 c6 _ (stp O3.rw (bt (bt (bt (bt (bt B4 B5) B6) B7) B8) B9)) (stp O6.rw (bt (bt B7 B8) B9))).mono ?_; rintro e w10 ⟨rfl, B10⟩
          go_wp2_with fail
          refine (S2 A7 c7 _ (stp O7.rw (bt (bt B8 B9) B10)) (stp hb (bt (bt (bt (bt (bt (bt (bt (bt (bt B1 B2) B3) B4) B5) B6) B7) B8) B9) B10))).mono ?_; rintro e w11 ⟨rfl, B11⟩
          go_wp2_with fail
          refine (S3 A9 c9 _ (stp O9.rw (bt B10 B11)) (stp ha (bt (bt (bt (bt (bt (bt (bt (bt (bt (bt B1 B2) B3) B4) B5) B6) B7) B8) B9) B10) B11))).mono ?_; rintro e w12 ⟨rfl, B12⟩
          go_wp2_with fail
          refine (H9 _ (stp ha (bt (bt (bt (bt (bt (bt (bt (bt (bt (bt (bt B1 B2) B3) B4) B5) B6) B7) B8) B9) B10) B11) B12)) (stp hb (bt (bt (bt (bt (bt (bt (bt (bt (bt (bt (bt B1 B2) B3) B4) B5) B6) B7) B8) B9) B10) B11) B12))).mono ?_; rintro e w13 ⟨A13, c13, A13', c13', rfl, O13, O13', B13⟩
          go_wp2_with fail
          go_ret
          exact ⟨rfl, (bt (bt (bt (bt (bt (bt (bt (bt (bt (bt (bt (bt B1 B2) B3) B4) B5) B6) B7) B8) B9) B10) B11) B12) B13)⟩
        · have tz : ((b.length : Int) == 0) = false := beq_eq_false_iff_ne.2 (by omega)
          have hy0 : y ≠ 0 := by intro h; rw [h, digs_zero] at hdb; rw [hdb] at h0; exact h0 rfl
          have e9 := divA_small L1 L2 (by rw [← hdb]; exact h0)
          rw [← hda, ← hdb] at e9
          rw [e9] at H9
          have H10 := fun A1 c1 w' h1 h2 => mul_any A1 D c1 cb _ _ (digs (x / y)) b w' rfl rfl h1 h2
          have e10 := mulA_small L10 L2 L12; rw [← hdb] at e10; rw [e10] at H10
          have H11 := fun A3 c3 A4 c4 w' h1 h2 => add_any A3 A4 c3 c4 _ _ (digs (x / y * y)) (digs (x % y)) w' rfl rfl h1 h2
          rw [addA_small L12 L11 (by rw [eS]; exact L1), eS] at H11
          have H12 := fun A1 c1 w' h1 h2 => cmp_b A1 D c1 cb _ _ (digs (x % y)) b w' rfl rfl h1 h2
          have e12 := cmpA_small L11 L2; rw [← hdb] at e12
          have hcm : cmpN (x % y) y = -1 := by unfold cmpN; rw [if_pos (Nat.mod_lt _ (by omega))]
          rw [e12, hcm] at H12
          clear hx hy hz hda hdb hdc ka kb kc L1 L2 L3 L4 L5 L6 L7 L8 L9 L10 L11 L12 eS eD e1 e2 e3 e4 e6 e7 e9 e10 e12 hcm h0 hy0
          go_enter Try.func11, Try.ntmps11
          go_wp2_with fail
          refine (awake_any _).mono ?_; rintro e w1 ⟨rfl, B1⟩
          go_wp2_with fail
          refine (hsa _ (stp ha B1)).mono ?_; rintro e w' ⟨rfl, rfl⟩
          go_wp2_with fail
          refine (hsb _ (stp hb B1)).mono ?_; rintro e w' ⟨rfl, rfl⟩
          go_wp2_with fail
          refine (hsc _ (stp hc B1)).mono ?_; rintro e w' ⟨rfl, rfl⟩
          go_wp2_with fail
          refine (H1 _ (stp hb B1) (stp hc B1)).mono ?_; rintro e w2 ⟨A2, c2, rfl, O2, B2⟩
          go_wp2_with fail
          refine (H2 A2 c2 _ (stp ha (bt B1 B2)) O2.rw).mono ?_; rintro e w3 ⟨A3, c3, rfl, O3, B3⟩
          go_wp2_with fail
          refine (H3 _ (stp ha (bt (bt B1 B2) B3)) (stp hb (bt (bt B1 B2) B3))).mono ?_; rintro e w4 ⟨A4, c4, rfl, O4, B4⟩
          go_wp2_with fail
          refine (H4 _ (stp hc (bt (bt (bt B1 B2) B3) B4)) (stp ha (bt (bt (bt B1 B2) B3) B4))).mono ?_; rintro e w5 ⟨A5, c5, rfl, O5, B5⟩
          go_wp2_with fail
          refine (H5 A4 c4 A5 c5 _ (stp O4.rw B5) O5.rw).mono ?_; rintro e w6 ⟨A6, c6, rfl, O6, B6⟩
          go_wp2_with fail
          refine (H6 A2 c2 _ (stp O2.rw (bt (bt (bt B3 B4) B5) B6)) (stp hc (bt (bt (bt (bt (bt B1 B2) B3) B4) B5) B6))).mono ?_; rintro e w7 ⟨A7, c7, rfl, O7, B7⟩
          go_wp2_with fail
          refine (H7 _ (stp ha (bt (bt (bt (bt (bt (bt B1 B2) B3) B4) B5) B6) B7))).mono ?_; rintro e w8 ⟨A8, c8, rfl, O8, B8⟩
          go_wp2_with fail
          refine (H8 A8 c8 _ O8.rw).mono ?_; rintro e w9 ⟨A9, c9, A9', c9', rfl, O9, O9', B9⟩
          go_wp2_with fail
          refine (S1 A3 c3 A6 c6 _ (stp O3.rw (bt (bt (bt (bt (bt B4 B5) B6) B7) B8) B9)) (stp O6.rw (bt (bt B7 B8) B9))).mono ?_; rintro e w10 ⟨rfl, B10⟩
          go_wp2_with fail
          refine (S2 A7 c7 _ (stp O7.rw (bt (bt B8 B9) B10)) (stp hb (bt (bt (bt (bt (bt (bt (bt (bt (bt B1 B2) B3) B4) B5) B6) B7) B8) B9) B10))).mono ?_; rintro e w11 ⟨rfl, B11⟩
          go_wp2_with fail
          refine (S3 A9 c9 _ (stp O9.rw (bt B10 B11)) (stp ha (bt (bt (bt (bt (bt (bt (bt (bt (bt (bt B1 B2) B3) B4) B5) B6) B7) B8) B9) B10) B11))).mono ?_; rintro e w12 ⟨rfl, B12⟩
          go_wp2_with fail
          refine (H9 _ (stp ha (bt (bt (bt (bt (bt (bt (bt (bt (bt (bt (bt B1 B2) B3) B4) B5) B6) B7) B8) B9) B10) B11) B12)) (stp hb (bt (bt (bt (bt (bt (bt (bt (bt (bt (bt (bt B1 B2) B3) B4) B5) B6) B7) B8) B9) B10) B11) B12))).mono ?_; rintro e w13 ⟨A13, c13, A13', c13', rfl, O13, O13', B13⟩
          go_wp2_with fail
          refine (H10 A13 c13 _ O13.rw (stp hb (bt (bt (bt (bt (bt (bt (bt (bt (bt (bt (bt (bt B1 B2) B3) B4) B5) B6) B7) B8) B9) B10) B11) B12) B13))).mono ?_; rintro e w14 ⟨A14, c14, rfl, O14, B14⟩
          go_wp2_with fail
          refine (H11 A14 c14 A13' c13' _ O14.rw (stp O13'.rw B14)).mono ?_; rintro e w15 ⟨A15, c15, rfl, O15, B15⟩
          go_wp2_with fail
          refine (H12 A13' c13' _ (stp O13'.rw (bt B14 B15)) (stp hb (bt (bt (bt (bt (bt (bt (bt (bt (bt (bt (bt (bt (bt (bt B1 B2) B3) B4) B5) B6) B7) B8) B9) B10) B11) B12) B13) B14) B15))).mono ?_; rintro e w16 ⟨rfl, B16⟩
          go_wp2_with fail
          refine (S3 A15 c15 _ (stp O15.rw B16) (stp ha (bt (bt (bt (bt (bt (bt (bt (bt (bt (bt (bt (bt (bt (bt (bt B1 B2) B3) B4) B5) B6) B7) B8) B9) B10) B11) B12) B13) B14) B15) B16))).mono ?_; rintro e w17 ⟨rfl, B17⟩
          go_wp2_with fail
          go_ret
          exact ⟨rfl, (bt (bt (bt (bt (bt (bt (bt (bt (bt (bt (bt (bt (bt (bt (bt (bt B1 B2) B3) B4) B5) B6) B7) B8) B9) B10) B11) B12) B13) B14) B15) B16) B17)⟩
end Go.Proofs.Ytpknbgfekmdlfaa
