/- Walks: the reference's Sound, check, fit; Add, Sub, Mul of both. -/
import Derived.Test.YtpknbgfekmdlfaaNatE
namespace Go.Proofs.Ytpknbgfekmdlfaa
open Go.RowKit

theorem nrm_iff {l : List Nat} (hb : B32 l) : l = digs (val l) ↔ Nrm l := ⟨Nrm_of_digs, fun h => (digs_val hb h).symm⟩
theorem rfit_any (A : Option Addr) (c n : Nat) (w : World) (hb : n ≤ 35184372088832) :
    Calls Try.prog 44 #[.slice A n c] w fun e w' => e = .returned (if n ≤ 512 then .tuple #[.slice A n c, .int .i64 0] else .tuple #[.slice none 0 0, .int .i64 4]) ∧ w = w' := by
  by_cases h5 : n ≤ 512
  · rw [if_pos h5]
    have h6 : ¬ 512 < n := by omega
    go_enter Try.func44, Try.ntmps44
    go_wp2
    go_ret2
    exact ⟨rfl, rfl⟩
  · rw [if_neg h5]
    have h6 : 512 < n := by omega
    go_enter Try.func44, Try.ntmps44
    go_wp2
    go_ret2
    exact ⟨rfl, rfl⟩

theorem rsound_any (A : Option Addr) (c n : Nat) (l : List Nat) (w : World) (hn : n = l.length) (h : RW w w.heap.size A c l) :
    Calls Try.prog 23 #[.slice A n c] w fun e w' => e = .returned (.bool (soundB l)) ∧ w = w' := by
  subst hn
  have hbig := h.big
  have hN := Lib.hid (nrm_iff h.b32)
  by_cases h5 : l.length ≤ 512
  · have h5' : decide ((l.length : Int) ≤ 512) = true := by simp; omega
    by_cases h0 : l.length = 0
    · have h0' : ((l.length : Int) == 0) = true := by simp [h0]
      have hl : Hid (soundB l = true) := by
        show _ = _
        have : l = [] := List.eq_nil_of_length_eq_zero h0
        subst this; simp [soundB, val, digs_zero]
      clear h0
      go_enter Try.func23, Try.ntmps23
      go_wp2
      go_ret
      exact ⟨ret_bool hl.out.symm, rfl⟩
    · have h0' : ((l.length : Int) == 0) = false := beq_eq_false_iff_ne.2 (by omega)
      obtain ⟨b, off, rfl, hb, hx⟩ := h.at_ (by omega)
      obtain ⟨j, hj⟩ : ∃ j, l.length = j + 1 := ⟨l.length - 1, by omega⟩
      have hxk := hx j (by omega)
      have hs : Hid (soundB l = decide (wd l j ≠ 0)) := by
        show _ = _
        rw [soundB, decide_eq_decide, hN.out]
        simp only [h5, true_and]
        constructor
        · rintro (h1 | h1)
          · subst h1; simp at h0
          · rw [hj] at h1; exact h1
        · intro h1; right; rw [hj]; exact h1
      have HJ := Lib.hid hj
      have e1 : (l.length : Int) - 1 = (j : Int) := by omega
      have hjl : j < l.length := by omega
      clear hj hx h
      by_cases hz : wd l j = 0
      · have hz' : ((wd l j : Int) != 0) = false := by simp [hz]
        have HZ := Lib.hid hz; clear hz
        go_enter Try.func23, Try.ntmps23
        go_wp2
        go_ret
        exact ⟨ret_bool (by rw [hs.out, HZ.out]; rfl), rfl⟩
      · have hz' : ((wd l j : Int) != 0) = true := by simp [hz]
        go_enter Try.func23, Try.ntmps23
        go_wp2
        go_ret
        exact ⟨ret_bool (by rw [hs.out, decide_eq_true hz]), rfl⟩
  · have h5' : decide ((l.length : Int) ≤ 512) = false := by simp; omega
    go_enter Try.func23, Try.ntmps23
    go_wp2
    go_ret
    refine ⟨ret_bool ?_, rfl⟩
    simp [soundB, h5]

def chk2 (a b : List Nat) : Bool := soundB a && soundB b

theorem rcheck_any (A D : Option Addr) (c d n m : Nat) (a b : List Nat) (w : World) (hn : n = a.length) (hm : m = b.length) (ha : RW w w.heap.size A c a) (hb : RW w w.heap.size D d b) :
    Calls Try.prog 43 #[.slice A n c, .slice D m d] w fun e w' => e = .returned (.int .i64 (if chk2 a b then 0 else 2)) ∧ w = w' := by
  have h1 := rsound_any A c n a w hn ha
  have h2 := rsound_any D d m b w hm hb
  subst hn hm
  unfold chk2
  cases hs : soundB a with
  | true =>
    cases hs2 : soundB b with
    | true =>
      rw [hs] at h1; rw [hs2] at h2
      clear hs hs2
      go_enter Try.func43, Try.ntmps43
      go_wp2_with fail
      refine h1.mono ?_; rintro e w' ⟨rfl, rfl⟩
      go_wp2_with fail
      refine h2.mono ?_; rintro e w' ⟨rfl, rfl⟩
      go_wp2_with fail
      go_ret
      exact ⟨rfl, rfl⟩
    | false =>
      rw [hs] at h1; rw [hs2] at h2
      clear hs hs2
      go_enter Try.func43, Try.ntmps43
      go_wp2_with fail
      refine h1.mono ?_; rintro e w' ⟨rfl, rfl⟩
      go_wp2_with fail
      refine h2.mono ?_; rintro e w' ⟨rfl, rfl⟩
      go_wp2_with fail
      go_ret
      exact ⟨rfl, rfl⟩
  | false =>
    rw [hs] at h1
    clear hs
    go_enter Try.func43, Try.ntmps43
    go_wp2_with fail
    refine h1.mono ?_; rintro e w' ⟨rfl, rfl⟩
    go_wp2_with fail
    go_ret
    exact ⟨rfl, rfl⟩

/-- the two slices that are checked, as the variadic list -/
theorem RL_two (w : World) (t : TypeId) (A D : Option Addr) (c d : Nat) (a b : List Nat) :
    RL fS (w.alloc (.cells #[.slice A a.length c, .slice D b.length d] t)) (w.heap.size + 1) (some ⟨w.heap.size, 0, none⟩) 2 [(A, c, a), (D, d, b)] := by
  refine ⟨by simp, by simp, fun _ => ⟨_, _, rfl, by omega, fun k z hk => ?_⟩⟩
  have h0 := heap_alloc_new w (.cells #[.slice A a.length c, .slice D b.length d] t)
  rw [cell_of_row _ _ _ _ _ _ h0, Nat.zero_add]
  match k, hk with
  | 0, hk => simp at hk; subst hk; rfl
  | 1, hk => simp at hk; subst hk; rfl
theorem RL_one (w : World) (t : TypeId) (A : Option Addr) (c : Nat) (a : List Nat) :
    RL fS (w.alloc (.cells #[.slice A a.length c] t)) (w.heap.size + 1) (some ⟨w.heap.size, 0, none⟩) 1 [(A, c, a)] := by
  refine ⟨by simp, by simp, fun _ => ⟨_, _, rfl, by omega, fun k z hk => ?_⟩⟩
  have h0 := heap_alloc_new w (.cells #[.slice A a.length c] t)
  rw [cell_of_row _ _ _ _ _ _ h0, Nat.zero_add]
  match k, hk with
  | 0, hk => simp at hk; subst hk; rfl

/-- check(a, b), as it is called -/
theorem check2_any (A D : Option Addr) (c d : Nat) (a b : List Nat) (w : World) (t : TypeId) (ha : RW w w.heap.size A c a) (hb : RW w w.heap.size D d b) :
    Calls Try.prog 40 #[.slice (some ⟨w.heap.size, 0, none⟩) 2 2] (w.alloc (.cells #[.slice A a.length c, .slice D b.length d] t)) fun e w' =>
      e = .returned (.int .i64 (if chk2 a b then 0 else 2)) ∧ w.alloc (.cells #[.slice A a.length c, .slice D b.length d] t) = w' := by
  have hb2 : Below w.heap.size w (w.alloc (.cells #[.slice A a.length c, .slice D b.length d] t)) := (Below.refl _ _).alloc (Nat.le_refl _) _
  have h := check_any (some ⟨w.heap.size, 0, none⟩) 2 2 [(A, c, a), (D, d, b)] _ rfl ((RL_two w t A D c d a b).more (by simp)) (by
    intro x hx
    simp only [List.mem_cons, List.not_mem_nil, or_false] at hx
    rcases hx with rfl | rfl
    · exact ha.step hb2 (by simp)
    · exact hb.step hb2 (by simp))
  simpa [chk, chk2] using h
theorem check1_any (A : Option Addr) (c : Nat) (a : List Nat) (w : World) (t : TypeId) (ha : RW w w.heap.size A c a) :
    Calls Try.prog 40 #[.slice (some ⟨w.heap.size, 0, none⟩) 1 1] (w.alloc (.cells #[.slice A a.length c] t)) fun e w' =>
      e = .returned (.int .i64 (if soundB a then 0 else 2)) ∧ w.alloc (.cells #[.slice A a.length c] t) = w' := by
  have hb2 : Below w.heap.size w (w.alloc (.cells #[.slice A a.length c] t)) := (Below.refl _ _).alloc (Nat.le_refl _) _
  have h := check_any (some ⟨w.heap.size, 0, none⟩) 1 1 [(A, c, a)] _ rfl ((RL_one w t A c a).more (by simp)) (by
    intro x hx
    simp only [List.mem_cons, List.not_mem_nil, or_false] at hx
    subst hx
    exact ha.step hb2 (by simp))
  simpa [chk] using h
end Go.Proofs.Ytpknbgfekmdlfaa
