/- The walk of nat.Root: Newton's way. -/
import Derived.Test.YtpknbgfekmdlfaaNDiv
import Derived.Test.YtpknbgfekmdlfaaNatO
import Derived.Test.YtpknbgfekmdlfaaNatH
import Derived.Test.YtpknbgfekmdlfaaPlainH
namespace Go.Proofs.Ytpknbgfekmdlfaa
open Go.RowKit

def rootA (a : List Nat) : Nat × Nat × Int := if soundB a then (isq (val a), val a - isq (val a) * isq (val a), 0) else (0, 0, 2)
theorem pow_lt_512 {k : Nat} (h : k < 16384) : 2 ^ k < Wp 512 :=
  Nat.lt_of_lt_of_eq (Nat.pow_lt_pow_right (by omega) (show k < 32 * 512 by omega)) (Wp_eq 512).symm

set_option maxRecDepth 100000 in
set_option maxHeartbeats 4000000 in
theorem root_any (A : Option Addr) (c n : Nat) (a : List Nat) (w : World) (hn : n = a.length) (ha : RW w w.heap.size A c a) :
    Calls Try.prog 38 #[.slice A n c] w (RetD w (rootA a)) := by
  subst hn
  have ba := ha.b32
  have hck := check1_any A c a w 22 ha
  have hb1 : Below w.heap.size w (w.alloc (.cells #[.slice A a.length c] 22)) := (Below.refl _ _).alloc (Nat.le_refl _) _
  have hsz1 : (w.alloc (.cells #[.slice A a.length c] 22)).heap.size = w.heap.size + 1 := by simp
  unfold rootA
  cases hs : soundB a with
  | false =>
    rw [hs] at hck
    clear hs
    go_enter Try.func38, Try.ntmps38
    go_wp2_with fail
    refine hck.mono ?_; rintro e w' ⟨rfl, rfl⟩
    go_wp2_with fail
    go_ret3
    exact retD_nil 2 hb1
  | true =>
    have h2 : a.length ≤ 512 ∧ a = digs (val a) := by simp only [soundB, decide_eq_true_eq] at hs; exact hs
    obtain ⟨hl5, hda⟩ := h2
    have na : Nrm a := by rw [hda]; exact Nrm_digs _
    have hbt := fun w' h => bits_any A c _ a w' rfl h
    have hbA : bitsA a = blen (val a) := by unfold bitsA; rw [if_pos hs]
    rw [hbA] at hbt
    rw [hs] at hck
    simp only [if_true] at hck ⊢
    have hbl : blen (val a) ≤ 16384 := Nat.le_trans (blen_le.2 (val_lt2 ba)) (by omega)
    have hst := Lib.hid (newton_start (N := val a) (k := (blen (val a) + 1) / 2) (by omega))
    generalize hbn : blen (val a) = bn at *
    have HDA := Lib.hid hda
    clear hbA hs hda hbn
    obtain ⟨kk, hkk⟩ : ∃ kk, kk = (bn + 1) / 2 := ⟨_, rfl⟩
    rw [← hkk] at hst
    have hki : ((bn : Int) + 1) / 2 = (kk : Int) := by omega
    have hkl : kk ≤ 8192 := by omega
    have hp512 := Lib.hid (pow_lt_512 (k := kk) (by omega))
    have hup : ∀ (w1 : World), Calls Try.prog 63 #[.slice (some ⟨w1.heap.size, 0, none⟩) 1 1, .int .i64 (kk : Int)] (w1.alloc (.cells #[.int .u32 (1 : Nat)] 33)) (RetW (w1.alloc (.cells #[.int .u32 (1 : Nat)] 33)) (2 ^ kk)) := fun w1 => by
      have h := up_any (some ⟨w1.heap.size, 0, none⟩) 1 1 [1] (w1.alloc (.cells #[.int .u32 (1 : Nat)] 33)) kk (by omega) rfl ((RW.one w1 33 (show 1 < 4294967296 by omega)).more (by simp)) (by simp)
      rw [val_one, Nat.one_mul] at h
      exact h
    have hpp : 0 < 2 ^ kk := Nat.pow_pos (by omega)
    generalize 2 ^ kk = s0 at *
    clear hkk
    have B01 := hb1
    have ha1 := ha.step B01 (B' := (w.alloc (.cells #[.slice A a.length c] 22)).heap.size) (by simp)
    have hb2 : Below w.heap.size w ((w.alloc (.cells #[.slice A a.length c] 22)).alloc (.cells #[.int .u32 (1 : Nat)] 33)) := B01.alloc B01.size _
    go_enter Try.func38, Try.ntmps38
    go_wp2_with fail
    refine hck.mono ?_; rintro e w' ⟨rfl, rfl⟩
    go_wp2_with fail
    have ha2 : RW _ _ A c a := ha.step hb2 hb2.size
    refine (hbt _ ha2).mono ?_; rintro e w' ⟨rfl, rfl⟩
    go_wp2_with fail
    have hup1 := hup (w.alloc (.cells #[.slice A a.length c] 22))
    rw [hsz1] at hup1
    refine hup1.mono ?_; rintro e w2 ⟨A2, c2, rfl, O2, B2⟩
    go_wp2_with fail
    have B02 := hb2.trans (B2.mono hb2.size)
    have O02 := O2.base_le hb2.size
    have hva : val a < Wp 512 := Nat.lt_of_lt_of_le (val_lt ba) (Wp_mono hl5)
    have HVA := Lib.hid hva
    have HA := Lib.hid ha
    clear hup hup1 hck hbt ha ha1 ha2 hb1 hb2 B01 B2 O2 hva hsz1
    go_loopg [2] s0 (fun g sv wr => ∃ (s : Nat) (As : Option Addr) (cs : Nat), s = g ∧ sv = .slice As (digs s).length cs ∧ 0 < s ∧ OW wr w.heap.size As cs (digs s) ∧ Hid (s < Wp 512) ∧ Hid (val a < (s + 1) * (s + 1)) ∧ Below w.heap.size w wr)
    case atStart => exact ⟨s0, A2, c2, rfl, rfl, hpp, O02, hp512, hst, B02⟩
    case round =>
      obtain ⟨s, As, cs, rfl, rfl, hs0, Os, hs5, hN, B⟩ := hrel
      by_cases hl0 : 0 < a.length
      · have hv := nrm_pos na ba hl0
        have ha := HA.out.step B B.size
        have hls : (digs s).length ≤ 512 := digs_len_le.2 hs5.out
        have hlq : (digs (val a / s)).length ≤ 512 := digs_len_le.2 (Nat.lt_of_le_of_lt (Nat.div_le_self _ _) HVA.out)
        have hov := over_any A As c cs _ _ a (digs s) wr rfl rfl ha Os.rw na (Nrm_digs s) (by rw [val_digs]; omega) (by omega)
        rw [val_digs] at hov
        have hpl : ∀ A1 c1 w2, RW w2 w2.heap.size As cs (digs s) → RW w2 w2.heap.size A1 c1 (digs (val a / s)) → Calls Try.prog 46 #[.slice As (digs s).length cs, .slice A1 (digs (val a / s)).length c1] w2 (RetW w2 (s + val a / s)) := fun A1 c1 w2 h1 h2 => by
          have h := plus_any As A1 cs c1 _ _ (digs s) (digs (val a / s)) w2 rfl rfl h1 h2 (by omega) (by omega)
          rw [val_digs, val_digs] at h; exact h
        have hdn : ∀ A3 c3 w3, RW w3 w3.heap.size A3 c3 (digs (s + val a / s)) → Calls Try.prog 62 #[.slice A3 (digs (s + val a / s)).length c3, .int .i64 1] w3 (RetW w3 (nxt (val a) s)) := fun A3 c3 w3 h1 => by
          have h := down_any A3 c3 _ (digs (s + val a / s)) w3 1 (by omega) rfl h1
          rw [val_digs] at h; exact h
        have hod : ∀ A4 c4 w4, RW w4 w4.heap.size A4 c4 (digs (nxt (val a) s)) → RW w4 w4.heap.size As cs (digs s) → Calls Try.prog 48 #[.slice A4 (digs (nxt (val a) s)).length c4, .slice As (digs s).length cs] w4 (fun e w' => e = .returned (.int .i64 (cmpN (nxt (val a) s) s)) ∧ ∃ q, w' = w4.drewN q) := fun A4 c4 w4 h1 h2 => by
          have h := order_any A4 As c4 cs _ _ (digs (nxt (val a) s)) (digs s) w4 rfl rfl h1 h2 (Nrm_digs _) (Nrm_digs _)
          rw [val_digs, val_digs] at h; exact h
        have hnp := nxt_pos hv hs0
        have hstep := Lib.hid (newton_step (N := val a) hs0)
        by_cases hlt : nxt (val a) s < s
        · have hcmp : cmpN (nxt (val a) s) s = -1 := by unfold cmpN; rw [if_pos hlt]
          simp only [hcmp] at hod
          have HLT := Lib.hid hlt
          have hn5 : Hid (nxt (val a) s < Wp 512) := Nat.lt_trans hlt hs5.out
          clear hlt hcmp
          go_wp2_with fail
          refine hov.mono ?_; rintro e w2 ⟨A1, c1, A1', c1', rfl, O1, O1', B1⟩
          go_wp2_with fail
          refine (hpl A1 c1 w2 (Os.rw.step B1 B1.size) O1.rw).mono ?_; rintro e w3 ⟨A3, c3, rfl, O3, B3⟩
          go_wp2_with fail
          have D3 := B1.trans (B3.mono B1.size)
          refine (hdn A3 c3 w3 O3.rw).mono ?_; rintro e w4 ⟨A4, c4, rfl, O4, B4⟩
          go_wp2_with fail
          have D4 := D3.trans (B4.mono D3.size)
          refine (hod A4 c4 w4 O4.rw (Os.rw.step D4 D4.size)).mono ?_; rintro e w5 ⟨rfl, q0, rfl⟩
          go_wp2_with fail
          go_roundg (nxt (val a) s)
          case measure => exact HLT.out
          case rel =>
            have C3 := B.trans (D3.mono B.size)
            exact ⟨_, A4, c4, rfl, rfl, hnp, (O4.base_le C3.size).drewN q0, hn5, hstep, bdN (B.trans (D4.mono B.size)) q0⟩
        · have hcmp : 0 ≤ cmpN (nxt (val a) s) s := by unfold cmpN; rw [if_neg hlt]; split <;> omega
          generalize cmpN (nxt (val a) s) s = cm at *
          have hex := newton_exit (N := val a) (s := s) (by omega)
          have hsq := isq_unique hex hN.out
          have htm : ∀ w2, RW w2 w2.heap.size As cs (digs s) → Calls Try.prog 42 #[.slice As (digs s).length cs, .slice As (digs s).length cs] w2 (RetW w2 (s * s)) := fun w2 h1 => by
            have h := times_any As As cs cs _ _ (digs s) (digs s) w2 rfl rfl h1 h1 (by omega) (by omega)
            rw [val_digs] at h; exact h
          have hll : (digs (s * s)).length ≤ a.length := digs_len_le.2 (Nat.lt_of_le_of_lt hex (val_lt ba))
          have hle : ∀ A6 c6 w6, RW w6 w6.heap.size A c a → RW w6 w6.heap.size A6 c6 (digs (s * s)) → Calls Try.prog 49 #[.slice A a.length c, .slice A6 (digs (s * s)).length c6] w6 (RetW w6 (val a - s * s)) := fun A6 c6 w6 h1 h2 => by
            have h := less_any A A6 c c6 _ _ a (digs (s * s)) w6 rfl rfl h1 h2 hll (by rw [val_digs]; exact hex)
            rw [val_digs] at h; exact h
          have HSQ := Lib.hid hsq
          clear hex hsq hlt hll
          go_wp2_with fail
          refine hov.mono ?_; rintro e w2 ⟨A1, c1, A1', c1', rfl, O1, O1', B1⟩
          go_wp2_with fail
          refine (hpl A1 c1 w2 (Os.rw.step B1 B1.size) O1.rw).mono ?_; rintro e w3 ⟨A3, c3, rfl, O3, B3⟩
          go_wp2_with fail
          have D3 := B1.trans (B3.mono B1.size)
          refine (hdn A3 c3 w3 O3.rw).mono ?_; rintro e w4 ⟨A4, c4, rfl, O4, B4⟩
          go_wp2_with fail
          have D4 := D3.trans (B4.mono D3.size)
          refine (hod A4 c4 w4 O4.rw (Os.rw.step D4 D4.size)).mono ?_; rintro e w5 ⟨rfl, q0, rfl⟩
          go_wp2_with fail
          have C4 := bdN (B.trans (D4.mono B.size)) q0
          refine (htm _ ((Os.rw.step D4 D4.size).drewN q0)).mono ?_; rintro e w6 ⟨A6, c6, rfl, O6, B6⟩
          go_wp2_with fail
          have C6 := C4.trans (B6.mono C4.size)
          refine (hle A6 c6 w6 (HA.out.step C6 C6.size) O6.rw).mono ?_; rintro e w7 ⟨A7, c7, rfl, O7, B7⟩
          go_wp2_with fail
          go_ret3
          have D7 := (bdN D4 q0).trans ((B6.trans (B7.mono B6.size)).mono (bdN D4 q0).size)
          rw [← HSQ.out]
          exact ⟨As, cs, A7, c7, rfl, Os.below D7 (Nat.le_refl _), O7.base_le C6.size, C6.trans (B7.mono C6.size)⟩
      · have ha0 : a = [] := List.eq_nil_of_length_eq_zero (by omega)
        have hv0 : val a = 0 := by rw [ha0]; rfl
        have HV0 := Lib.hid hv0
        clear ha0 hv0
        go_wp2_with fail
        go_ret3
        rw [HV0.out, isq_zero]
        exact retD_nil 0 B
end Go.Proofs.Ytpknbgfekmdlfaa
