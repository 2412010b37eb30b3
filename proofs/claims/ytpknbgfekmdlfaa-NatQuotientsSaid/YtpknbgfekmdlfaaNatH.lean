/- Walks: awake; the law NatProducts. -/
import Derived.Test.YtpknbgfekmdlfaaNatG
namespace Go.Proofs.Ytpknbgfekmdlfaa
open Go.RowKit

theorem digs_one_ (x : Nat) (h0 : x ≠ 0) (h : x < 4294967296) : [x] = digs (val [x]) := by rw [val_one, digs_one h0 h]
theorem digs_wake : digs 4294967296 = [0, 1] := by
  have h := digs_val (l := [0, 1]) (B32_cons (by omega) (B32_cons (by omega) B32_nil)) (.inr (by simp [wd]))
  simpa [val] using h
theorem wake_add : addA [4294967295] [1] = (4294967296, 0) := by
  have h1 : soundB [4294967295] = true := by simp only [soundB, decide_eq_true_eq]; exact ⟨by simp, digs_one_ _ (by omega) (by omega)⟩
  have h2 : soundB [1] = true := by simp only [soundB, decide_eq_true_eq]; exact ⟨by simp, digs_one_ _ (by omega) (by omega)⟩
  have h3 : chk2 [4294967295] [1] = true := by simp [chk2, h1, h2]
  unfold addA fitA
  rw [if_pos h3, val_one, val_one]
  rw [show 4294967295 + 1 = 4294967296 from rfl, digs_wake]
  rfl

set_option maxHeartbeats 1000000 in
theorem awake_any (w : World) : Calls Try.prog 14 #[] w fun e w' => e = .returned (.bool true) ∧ Below w.heap.size w w' := by
  have hb1 : Below w.heap.size w (w.alloc (.cells #[.int .u32 (4294967295 : Nat)] 33)) := (Below.refl _ _).alloc (Nat.le_refl _) _
  have hb2 : Below w.heap.size w ((w.alloc (.cells #[.int .u32 (4294967295 : Nat)] 33)).alloc (.cells #[.int .u32 (1 : Nat)] 33)) := hb1.alloc (by simp) _
  have hx : RW ((w.alloc (.cells #[.int .u32 (4294967295 : Nat)] 33)).alloc (.cells #[.int .u32 (1 : Nat)] 33)) (w.heap.size + 2) (some ⟨w.heap.size, 0, none⟩) 1 [4294967295] :=
    ((RW.one w 33 (show 4294967295 < 4294967296 by omega)).below ((Below.refl _ _).alloc (by simp) _)).more (by omega)
  have hy : RW ((w.alloc (.cells #[.int .u32 (4294967295 : Nat)] 33)).alloc (.cells #[.int .u32 (1 : Nat)] 33)) (w.heap.size + 2) (some ⟨w.heap.size + 1, 0, none⟩) 1 [1] := by
    have := RW.one (w.alloc (.cells #[.int .u32 (4294967295 : Nat)] 33)) 33 (show 1 < 4294967296 by omega)
    simpa using this
  have ha := add_any (some ⟨w.heap.size, 0, none⟩) (some ⟨w.heap.size + 1, 0, none⟩) 1 1 1 1 [4294967295] [1] _ rfl rfl (hx.more (by simp)) (hy.more (by simp))
  rw [wake_add] at ha
  go_enter Try.func14, Try.ntmps14
  go_wp2_with fail
  refine ha.mono ?_
  rintro e w' ⟨A', c', rfl, hO, hb3⟩
  rw [digs_wake] at hO ⊢
  have hbel := hb2.trans (hb3.mono hb2.size)
  obtain ⟨b, off, rfl, _, hc⟩ := hO.rw.at_ (by simp)
  have hc0 := hc 0 (by simp)
  have hc1 := hc 1 (by simp)
  simp only [wd, List.getD_cons_zero, List.getD_cons_succ, Nat.add_zero] at hc0 hc1
  clear hc hO
  go_wp2
  go_ret
  exact ⟨rfl, hbel⟩

theorem same_eq (A D : Option Addr) (c d n m : Nat) (a : List Nat) (w : World) (hn : n = a.length) (hm : m = a.length) (ha : RW w w.heap.size A c a) (hb : RW w w.heap.size D d a) :
    Calls Try.prog 15 #[.slice A n c, .slice D m d] w fun e w' => e = .returned (.bool true) ∧ ∃ q, w' = w.drewN q := by
  have h := same_any A D c d n m a a w hn hm ha hb
  rw [decide_eq_true rfl] at h
  exact h

set_option maxHeartbeats 1000000 in
theorem natProducts_walk (A : Option Addr) (c : Nat) (a : List Nat) (D : Option Addr) (d : Nat) (b : List Nat) (w : World) (ha : RW w w.heap.size A c a) (hb : RW w w.heap.size D d b) :
    Calls Try.prog 3 #[.slice A a.length c, .slice D b.length d] w fun e w' => e = .returned (.bool true) ∧ Below w.heap.size w w' := by
  have hm := mul_any A D c d _ _ a b w rfl rfl ha hb
  have hm2 : ∀ w' : World, RW w' w'.heap.size A c a → RW w' w'.heap.size D d b → _ := fun w' h1 h2 => rmul_any A D c d _ _ a b w' rfl rfl h1 h2
  generalize mulA a b = r at *
  obtain ⟨N, er⟩ := r
  go_enter Try.func3, Try.ntmps3
  go_wp2_with fail
  refine hm.mono ?_; rintro e w1 ⟨A1, c1, rfl, hO1, hb1⟩
  go_wp2_with fail
  refine (hm2 w1 (ha.step hb1 hb1.size) (hb.step hb1 hb1.size)).mono ?_; rintro e w2 ⟨A2, c2, rfl, hO2, hb2⟩
  go_wp2_with fail
  refine (awake_any w2).mono ?_; rintro e w3 ⟨rfl, hb3⟩
  go_wp2_with fail
  have r1 := hO1.rw.step (hb2.trans (hb3.mono hb2.size)) (Nat.le_trans hb2.size hb3.size)
  have r2 := hO2.rw.step hb3 hb3.size
  have hbel := hb1.trans ((hb2.trans (hb3.mono hb2.size)).mono hb1.size)
  refine (same_eq A1 A2 c1 c2 _ _ (digs N) w3 rfl rfl r1 r2).mono ?_; rintro e w4 ⟨rfl, q, rfl⟩
  go_wp2_with fail
  go_ret
  exact ⟨rfl, bdN hbel q⟩
end Go.Proofs.Ytpknbgfekmdlfaa
