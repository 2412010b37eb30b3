/- Walks: Shift of both. -/
import Derived.Test.YtpknbgfekmdlfaaNatN
namespace Go.Proofs.Ytpknbgfekmdlfaa
open Go.RowKit

def shiftA (a : List Nat) (i : Int) : Nat × Int :=
  if soundB a then (if i < -16384 ∨ i > 16384 then (0, 1) else if i < 0 then (val a / 2 ^ (-i).toNat, 0) else fitA (val a * 2 ^ i.toNat)) else (0, 2)
theorem down_i (A : Option Addr) (c n : Nat) (a : List Nat) (w : World) (i : Int) (k : Nat) (hi : i = (k : Int)) (hk : k ≤ 1000000) (hn : n = a.length) (ha : RW w w.heap.size A c a) :
    Calls Try.prog 62 #[.slice A n c, .int .i64 i] w (RetW w (val a / 2 ^ k)) := by subst hi; exact down_any A c n a w k hk hn ha
theorem up_i (A : Option Addr) (c n : Nat) (a : List Nat) (w : World) (i : Int) (k : Nat) (hi : i = (k : Int)) (hk : k ≤ 1000000) (hn : n = a.length) (ha : RW w w.heap.size A c a) (hla : a.length ≤ 17592186044416) :
    Calls Try.prog 63 #[.slice A n c, .int .i64 i] w (RetW w (val a * 2 ^ k)) := by subst hi; exact up_any A c n a w k hk hn ha hla
theorem rdown_i (A : Option Addr) (c n : Nat) (a : List Nat) (w : World) (i : Int) (k : Nat) (hi : i = (k : Int)) (hk : k ≤ 1000000) (hn : n = a.length) (ha : RW w w.heap.size A c a) (hla : a.length ≤ 17592186044416) :
    Calls Try.prog 68 #[.slice A n c, .int .i64 i] w (RetW w (val a / 2 ^ k)) := by subst hi; exact rdown_any A c n a w k hk hn ha hla
theorem rup_i (A : Option Addr) (c n : Nat) (a : List Nat) (w : World) (i : Int) (k : Nat) (hi : i = (k : Int)) (hk : k ≤ 1000000) (hn : n = a.length) (ha : RW w w.heap.size A c a) (hla : a.length ≤ 17592186044416) :
    Calls Try.prog 69 #[.slice A n c, .int .i64 i] w (RetW w (val a * 2 ^ k)) := by subst hi; exact rup_any A c n a w k hk hn ha hla

set_option maxHeartbeats 1000000 in
theorem shift_any (A : Option Addr) (c n : Nat) (a : List Nat) (i : Int) (w : World) (hn : n = a.length) (ha : RW w w.heap.size A c a) (hi1 : -9223372036854775808 ≤ i) (hi2 : i ≤ 9223372036854775807) :
    Calls Try.prog 32 #[.slice A n c, .int .i64 i] w (RetE w (shiftA a i)) := by
  subst hn
  have hck := check1_any A c a w 22 ha
  have hb2 : Below w.heap.size w (w.alloc (.cells #[.slice A a.length c] 22)) := (Below.refl _ _).alloc (Nat.le_refl _) _
  unfold shiftA
  cases hc : soundB a with
  | true =>
    rw [hc] at hck
    have hlen : a.length ≤ 512 := by simp only [soundB, decide_eq_true_eq] at hc; exact hc.1
    clear hc
    simp only [if_true] at hck ⊢
    by_cases h1 : i < -16384
    · rw [if_pos (Or.inl h1)]
      go_enter Try.func32, Try.ntmps32
      go_wp2_with fail
      refine hck.mono ?_; rintro e w' ⟨rfl, rfl⟩
      go_wp2_with fail
      go_ret2
      exact ret_nil 1 hb2
    · by_cases h2 : i > 16384
      · rw [if_pos (Or.inr h2)]
        go_enter Try.func32, Try.ntmps32
        go_wp2_with fail
        refine hck.mono ?_; rintro e w' ⟨rfl, rfl⟩
        go_wp2_with fail
        go_ret2
        exact ret_nil 1 hb2
      · rw [if_neg (by omega)]
        by_cases h3 : i < 0
        · rw [if_pos h3]
          have hd := down_i A c a.length a _ (-i) (-i).toNat (by omega) (by omega) rfl ((ha.step hb2 (B' := w.heap.size + 1) (by omega)).more (by simp))
          go_enter Try.func32, Try.ntmps32
          go_wp2_with fail
          refine hck.mono ?_; rintro e w' ⟨rfl, rfl⟩
          go_wp2_with fail
          refine hd.mono ?_; rintro e w3 ⟨A', c', rfl, hO, hbe⟩
          go_wp2_with fail
          go_ret2
          exact ⟨A', c', rfl, hO.base_le hb2.size, hb2.trans (hbe.mono hb2.size)⟩
        · rw [if_neg h3]
          have hd := up_i A c a.length a _ i i.toNat (by omega) (by omega) rfl ((ha.step hb2 (B' := w.heap.size + 1) (by omega)).more (by simp)) (by omega)
          go_enter Try.func32, Try.ntmps32
          go_wp2_with fail
          refine hck.mono ?_; rintro e w' ⟨rfl, rfl⟩
          go_wp2_with fail
          refine hd.mono ?_; rintro e w2 ⟨A', c', rfl, hO, hbe⟩
          have hO2 := hO.base_le hb2.size
          have hbe2 := hb2.trans (hbe.mono hb2.size)
          have hbg := hO.big
          go_wp2_with fail
          refine (fit_any A' c' _ w2 hbg).mono ?_
          intro e w3 hew
          have hr := Lib.hid (fit_ret hO2 hbe2 hew)
          obtain ⟨rfl, rfl⟩ := hew
          obtain ⟨A4, c4, g1, g2, g3⟩ := hr.out
          have G2 := Lib.hid g2
          have G3 := Lib.hid g3
          clear g2 g3
          rw [g1]
          clear g1 hr hO hO2 hbe hbe2
          go_wp2_with fail
          go_ret2
          exact ⟨A4, c4, rfl, G2.out, G3.out⟩
  | false =>
    rw [hc] at hck
    clear hc
    go_enter Try.func32, Try.ntmps32
    go_wp2_with fail
    refine hck.mono ?_; rintro e w' ⟨rfl, rfl⟩
    go_wp2_with fail
    go_ret2
    exact ret_nil 2 hb2

set_option maxHeartbeats 1000000 in
theorem rshift_any (A : Option Addr) (c n : Nat) (a : List Nat) (i : Int) (w : World) (hn : n = a.length) (ha : RW w w.heap.size A c a) (hi1 : -9223372036854775808 ≤ i) (hi2 : i ≤ 9223372036854775807) :
    Calls Try.prog 37 #[.slice A n c, .int .i64 i] w (RetE w (shiftA a i)) := by
  subst hn
  have hck := rsound_any A c _ a w rfl ha
  have hb2 : Below w.heap.size w w := Below.refl _ _
  unfold shiftA
  cases hc : soundB a with
  | true =>
    rw [hc] at hck
    have hlen : a.length ≤ 512 := by simp only [soundB, decide_eq_true_eq] at hc; exact hc.1
    clear hc
    simp only [if_true] at hck ⊢
    by_cases h1 : i < -16384
    · rw [if_pos (Or.inl h1)]
      go_enter Try.func37, Try.ntmps37
      go_wp2_with fail
      refine hck.mono ?_; rintro e w' ⟨rfl, rfl⟩
      go_wp2_with fail
      go_ret2
      exact ret_nil 1 hb2
    · by_cases h2 : i > 16384
      · rw [if_pos (Or.inr h2)]
        go_enter Try.func37, Try.ntmps37
        go_wp2_with fail
        refine hck.mono ?_; rintro e w' ⟨rfl, rfl⟩
        go_wp2_with fail
        go_ret2
        exact ret_nil 1 hb2
      · rw [if_neg (by omega)]
        by_cases h3 : i < 0
        · rw [if_pos h3]
          have hd := rdown_i A c a.length a _ (-i) (-i).toNat (by omega) (by omega) rfl (ha) (by omega)
          go_enter Try.func37, Try.ntmps37
          go_wp2_with fail
          refine hck.mono ?_; rintro e w' ⟨rfl, rfl⟩
          go_wp2_with fail
          refine hd.mono ?_; rintro e w3 ⟨A', c', rfl, hO, hbe⟩
          go_wp2_with fail
          go_ret2
          exact ⟨A', c', rfl, hO.base_le hb2.size, hb2.trans (hbe.mono hb2.size)⟩
        · rw [if_neg h3]
          have hd := rup_i A c a.length a _ i i.toNat (by omega) (by omega) rfl (ha) (by omega)
          go_enter Try.func37, Try.ntmps37
          go_wp2_with fail
          refine hck.mono ?_; rintro e w' ⟨rfl, rfl⟩
          go_wp2_with fail
          refine hd.mono ?_; rintro e w2 ⟨A', c', rfl, hO, hbe⟩
          have hO2 := hO.base_le hb2.size
          have hbe2 := hb2.trans (hbe.mono hb2.size)
          have hbg := hO.big
          go_wp2_with fail
          refine (rfit_any A' c' _ w2 hbg).mono ?_
          intro e w3 hew
          have hr := Lib.hid (fit_ret hO2 hbe2 hew)
          obtain ⟨rfl, rfl⟩ := hew
          obtain ⟨A4, c4, g1, g2, g3⟩ := hr.out
          have G2 := Lib.hid g2
          have G3 := Lib.hid g3
          clear g2 g3
          rw [g1]
          clear g1 hr hO hO2 hbe hbe2
          go_wp2_with fail
          go_ret2
          exact ⟨A4, c4, rfl, G2.out, G3.out⟩
  | false =>
    rw [hc] at hck
    clear hc
    go_enter Try.func37, Try.ntmps37
    go_wp2_with fail
    refine hck.mono ?_; rintro e w' ⟨rfl, rfl⟩
    go_wp2_with fail
    go_ret2
    exact ret_nil 2 hb2
end Go.Proofs.Ytpknbgfekmdlfaa
