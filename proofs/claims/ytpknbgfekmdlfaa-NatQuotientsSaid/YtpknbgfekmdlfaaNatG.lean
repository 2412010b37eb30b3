/- Walks: Add, Mul, Sub of both. -/
import Derived.Test.YtpknbgfekmdlfaaNatF
namespace Go.Proofs.Ytpknbgfekmdlfaa
open Go.RowKit

/-- an answer with an error's number: a slice of the call's own that holds a number's words -/
def RetE (w : World) (r : Nat × Int) (e : Ending) (w' : World) : Prop :=
  ∃ A' c', e = .returned (.tuple #[.slice A' (digs r.1).length c', .int .i64 r.2]) ∧ OW w' w.heap.size A' c' (digs r.1) ∧ Below w.heap.size w w'
def fitA (N : Nat) : Nat × Int := if (digs N).length ≤ 512 then (N, 0) else (0, 4)
theorem ret_nil {w w' : World} (k : Int) (hb : Below w.heap.size w w') : RetE w (0, k) (.returned (.tuple #[.slice none 0 0, .int .i64 k])) w' := by
  refine ⟨none, 0, ?_, ?_, hb⟩
  · rw [digs_zero]; rfl
  · rw [digs_zero]; exact OW.nil _ _

/-- fit of an answer -/
theorem fit_ret {w w1 w2 : World} {N : Nat} {A' : Option Addr} {c' : Nat} (hO : OW w1 w.heap.size A' c' (digs N)) (hb : Below w.heap.size w w1) {e : Ending}
    (he : e = .returned (if (digs N).length ≤ 512 then .tuple #[.slice A' (digs N).length c', .int .i64 0] else .tuple #[.slice none 0 0, .int .i64 4]) ∧ w1 = w2) : RetE w (fitA N) e w2 := by
  obtain ⟨rfl, rfl⟩ := he
  unfold fitA
  by_cases h : (digs N).length ≤ 512
  · rw [if_pos h, if_pos h]; exact ⟨A', c', rfl, hO, hb⟩
  · rw [if_neg h, if_neg h]; exact ret_nil 4 hb
theorem big_of_chk {a b : List Nat} (h : chk2 a b = true) : a.length ≤ 512 ∧ b.length ≤ 512 ∧ a = digs (val a) ∧ b = digs (val b) := by
  simp only [chk2, soundB, Bool.and_eq_true, decide_eq_true_eq] at h
  exact ⟨h.1.1, h.2.1, h.1.2, h.2.2⟩

def addA (a b : List Nat) : Nat × Int := if chk2 a b then fitA (val a + val b) else (0, 2)
set_option maxHeartbeats 1000000 in
theorem add_any (A D : Option Addr) (c d n m : Nat) (a b : List Nat) (w : World) (hn : n = a.length) (hm : m = b.length) (ha : RW w w.heap.size A c a) (hb : RW w w.heap.size D d b) :
    Calls Try.prog 16 #[.slice A n c, .slice D m d] w (RetE w (addA a b)) := by
  subst hn hm
  have hck := check2_any A D c d a b w 22 ha hb
  have hb2 : Below w.heap.size w (w.alloc (.cells #[.slice A a.length c, .slice D b.length d] 22)) := (Below.refl _ _).alloc (Nat.le_refl _) _
  unfold addA
  cases hc : chk2 a b with
  | true =>
    rw [hc] at hck
    obtain ⟨k1, k2, k3, k4⟩ := big_of_chk hc
    clear hc k3 k4
    have ha2 := ha.step hb2 (B' := w.heap.size + 1) (by omega)
    have hb3 := hb.step hb2 (B' := w.heap.size + 1) (by omega)
    have hp := plus_any A D c d _ _ a b _ rfl rfl (ha2.more (by simp)) (hb3.more (by simp)) (by omega) (by omega)
    simp only [if_true] at hck ⊢
    go_enter Try.func16, Try.ntmps16
    go_wp2_with fail
    refine hck.mono ?_; rintro e w' ⟨rfl, rfl⟩
    go_wp2_with fail
    refine hp.mono ?_; rintro e w2 ⟨A', c', rfl, hO, hbe⟩
    have hO2 := hO.base_le hb2.size
    have hbe2 := hb2.trans (hbe.mono hb2.size)
    have hbg := hO.big
    go_wp2_with fail
    refine (fit_any A' c' _ w2 hbg).mono ?_
    intro e w3 hew
    have hr := Lib.hid (fit_ret hO2 hbe2 hew)
    obtain ⟨rfl, rfl⟩ := hew
    obtain ⟨A4, c4, g1, g2, g3⟩ := hr.out
    have G2 := Lib.hid g2
    have G3 := Lib.hid g3
    clear g2 g3
    rw [g1]
    clear g1 hr hO hO2 hbe hbe2
    go_wp2_with fail
    go_ret2
    exact ⟨A4, c4, rfl, G2.out, G3.out⟩
  | false =>
    rw [hc] at hck
    clear hc
    go_enter Try.func16, Try.ntmps16
    go_wp2_with fail
    refine hck.mono ?_; rintro e w' ⟨rfl, rfl⟩
    go_wp2_with fail
    go_ret2
    exact ret_nil 2 hb2

set_option maxHeartbeats 1000000 in
theorem radd_any (A D : Option Addr) (c d n m : Nat) (a b : List Nat) (w : World) (hn : n = a.length) (hm : m = b.length) (ha : RW w w.heap.size A c a) (hb : RW w w.heap.size D d b) :
    Calls Try.prog 17 #[.slice A n c, .slice D m d] w (RetE w (addA a b)) := by
  subst hn hm
  have hck := rcheck_any A D c d _ _ a b w rfl rfl ha hb
  unfold addA
  cases hc : chk2 a b with
  | true =>
    rw [hc] at hck
    obtain ⟨k1, k2, k3, k4⟩ := big_of_chk hc
    clear hc k3 k4
    have hp := rplus_any A D c d _ _ a b _ rfl rfl ha hb (by omega) (by omega)
    simp only [if_true] at hck ⊢
    go_enter Try.func17, Try.ntmps17
    go_wp2_with fail
    refine hck.mono ?_; rintro e w' ⟨rfl, rfl⟩
    go_wp2_with fail
    refine hp.mono ?_; rintro e w2 ⟨A', c', rfl, hO, hbe⟩
    have hbg := hO.big
    go_wp2_with fail
    refine (rfit_any A' c' _ w2 hbg).mono ?_
    intro e w3 hew
    have hr := Lib.hid (fit_ret hO hbe hew)
    obtain ⟨rfl, rfl⟩ := hew
    obtain ⟨A4, c4, g1, g2, g3⟩ := hr.out
    have G2 := Lib.hid g2
    have G3 := Lib.hid g3
    clear g2 g3
    rw [g1]
    clear g1 hr hO hbe
    go_wp2_with fail
    go_ret2
    exact ⟨A4, c4, rfl, G2.out, G3.out⟩
  | false =>
    rw [hc] at hck
    clear hc
    go_enter Try.func17, Try.ntmps17
    go_wp2_with fail
    refine hck.mono ?_; rintro e w' ⟨rfl, rfl⟩
    go_wp2_with fail
    go_ret2
    exact ret_nil 2 (Below.refl _ _)

def mulA (a b : List Nat) : Nat × Int := if chk2 a b then fitA (val a * val b) else (0, 2)
set_option maxHeartbeats 1000000 in
theorem mul_any (A D : Option Addr) (c d n m : Nat) (a b : List Nat) (w : World) (hn : n = a.length) (hm : m = b.length) (ha : RW w w.heap.size A c a) (hb : RW w w.heap.size D d b) :
    Calls Try.prog 12 #[.slice A n c, .slice D m d] w (RetE w (mulA a b)) := by
  subst hn hm
  have hck := check2_any A D c d a b w 22 ha hb
  have hb2 : Below w.heap.size w (w.alloc (.cells #[.slice A a.length c, .slice D b.length d] 22)) := (Below.refl _ _).alloc (Nat.le_refl _) _
  unfold mulA
  cases hc : chk2 a b with
  | true =>
    rw [hc] at hck
    obtain ⟨k1, k2, k3, k4⟩ := big_of_chk hc
    clear hc k3 k4
    have ha2 := ha.step hb2 (B' := w.heap.size + 1) (by omega)
    have hb3 := hb.step hb2 (B' := w.heap.size + 1) (by omega)
    have hp := times_any A D c d _ _ a b _ rfl rfl (ha2.more (by simp)) (hb3.more (by simp)) (by omega) (by omega)
    simp only [if_true] at hck ⊢
    go_enter Try.func12, Try.ntmps12
    go_wp2_with fail
    refine hck.mono ?_; rintro e w' ⟨rfl, rfl⟩
    go_wp2_with fail
    refine hp.mono ?_; rintro e w2 ⟨A', c', rfl, hO, hbe⟩
    have hO2 := hO.base_le hb2.size
    have hbe2 := hb2.trans (hbe.mono hb2.size)
    have hbg := hO.big
    go_wp2_with fail
    refine (fit_any A' c' _ w2 hbg).mono ?_
    intro e w3 hew
    have hr := Lib.hid (fit_ret hO2 hbe2 hew)
    obtain ⟨rfl, rfl⟩ := hew
    obtain ⟨A4, c4, g1, g2, g3⟩ := hr.out
    have G2 := Lib.hid g2
    have G3 := Lib.hid g3
    clear g2 g3
    rw [g1]
    clear g1 hr hO hO2 hbe hbe2
    go_wp2_with fail
    go_ret2
    exact ⟨A4, c4, rfl, G2.out, G3.out⟩
  | false =>
    rw [hc] at hck
    clear hc
    go_enter Try.func12, Try.ntmps12
    go_wp2_with fail
    refine hck.mono ?_; rintro e w' ⟨rfl, rfl⟩
    go_wp2_with fail
    go_ret2
    exact ret_nil 2 hb2

set_option maxHeartbeats 1000000 in
theorem rmul_any (A D : Option Addr) (c d n m : Nat) (a b : List Nat) (w : World) (hn : n = a.length) (hm : m = b.length) (ha : RW w w.heap.size A c a) (hb : RW w w.heap.size D d b) :
    Calls Try.prog 13 #[.slice A n c, .slice D m d] w (RetE w (mulA a b)) := by
  subst hn hm
  have hck := rcheck_any A D c d _ _ a b w rfl rfl ha hb
  unfold mulA
  cases hc : chk2 a b with
  | true =>
    rw [hc] at hck
    obtain ⟨k1, k2, k3, k4⟩ := big_of_chk hc
    clear hc k3 k4
    have hp := rtimes_any A D c d _ _ a b _ rfl rfl ha hb (by omega) (by omega)
    simp only [if_true] at hck ⊢
    go_enter Try.func13, Try.ntmps13
    go_wp2_with fail
    refine hck.mono ?_; rintro e w' ⟨rfl, rfl⟩
    go_wp2_with fail
    refine hp.mono ?_; rintro e w2 ⟨A', c', rfl, hO, hbe⟩
    have hbg := hO.big
    go_wp2_with fail
    refine (rfit_any A' c' _ w2 hbg).mono ?_
    intro e w3 hew
    have hr := Lib.hid (fit_ret hO hbe hew)
    obtain ⟨rfl, rfl⟩ := hew
    obtain ⟨A4, c4, g1, g2, g3⟩ := hr.out
    have G2 := Lib.hid g2
    have G3 := Lib.hid g3
    clear g2 g3
    rw [g1]
    clear g1 hr hO hbe
    go_wp2_with fail
    go_ret2
    exact ⟨A4, c4, rfl, G2.out, G3.out⟩
  | false =>
    rw [hc] at hck
    clear hc
    go_enter Try.func13, Try.ntmps13
    go_wp2_with fail
    refine hck.mono ?_; rintro e w' ⟨rfl, rfl⟩
    go_wp2_with fail
    go_ret2
    exact ret_nil 2 (Below.refl _ _)
end Go.Proofs.Ytpknbgfekmdlfaa
