/- Walks: the reference's Sound, check, fit; Add, Sub, Mul of both. -/
import Derived.Test.YtabcnpcfknlmlaaNatE
namespace Go.Proofs.Ytabcnpcfknlmlaa
open Go.RowKit

theorem nrm_iff {l : List Nat} (hb : B32 l) : l = digs (val l) ↔ Nrm l := ⟨Nrm_of_digs, fun h => (digs_val hb h).symm⟩
theorem rsound_any (A : Option Addr) (c n : Nat) (l : List Nat) (w : World) (hn : n = l.length) (h : RW w w.heap.size A c l) :
    Calls Try.prog 87 #[.slice A n c] w fun e w' => e = .returned (.bool (soundB l)) ∧ w = w' := by
  subst hn
  have hbig := h.big
  have hN := Lib.hid (nrm_iff h.b32)
  by_cases h5 : l.length ≤ 512
  · have h5' : decide ((l.length : Int) ≤ 512) = true := by simp; omega
    by_cases h0 : l.length = 0
    · have h0' : ((l.length : Int) == 0) = true := by simp [h0]
      have hl : Hid (soundB l = true) := by
        show _ = _
        have : l = [] := List.eq_nil_of_length_eq_zero h0
        subst this; simp [soundB, val, digs_zero]
      clear h0
      go_enter Try.func87, Try.ntmps87
      go_wp2
      go_ret
      exact ⟨ret_bool hl.out.symm, rfl⟩
    · have h0' : ((l.length : Int) == 0) = false := beq_eq_false_iff_ne.2 (by omega)
      obtain ⟨b, off, rfl, hb, hx⟩ := h.at_ (by omega)
      obtain ⟨j, hj⟩ : ∃ j, l.length = j + 1 := ⟨l.length - 1, by omega⟩
      have hxk := hx j (by omega)
      have hs : Hid (soundB l = decide (wd l j ≠ 0)) := by
        show _ = _
        rw [soundB, decide_eq_decide, hN.out]
        simp only [h5, true_and]
        constructor
        · rintro (h1 | h1)
          · subst h1; simp at h0
          · rw [hj] at h1; exact h1
        · intro h1; right; rw [hj]; exact h1
      have HJ := Lib.hid hj
      have e1 : (l.length : Int) - 1 = (j : Int) := by omega
      have hjl : j < l.length := by omega
      clear hj hx h
      by_cases hz : wd l j = 0
      · have hz' : ((wd l j : Int) != 0) = false := by simp [hz]
        have HZ := Lib.hid hz; clear hz
        go_enter Try.func87, Try.ntmps87
        go_wp2
        go_ret
        exact ⟨ret_bool (by rw [hs.out, HZ.out]; rfl), rfl⟩
      · have hz' : ((wd l j : Int) != 0) = true := by simp [hz]
        go_enter Try.func87, Try.ntmps87
        go_wp2
        go_ret
        exact ⟨ret_bool (by rw [hs.out, decide_eq_true hz]), rfl⟩
  · have h5' : decide ((l.length : Int) ≤ 512) = false := by simp; omega
    go_enter Try.func87, Try.ntmps87
    go_wp2
    go_ret
    refine ⟨ret_bool ?_, rfl⟩
    simp [soundB, h5]

def chk2 (a b : List Nat) : Bool := soundB a && soundB b

/-- the two slices that are checked, as the variadic list -/
theorem RL_two (w : World) (t : TypeId) (A D : Option Addr) (c d : Nat) (a b : List Nat) :
    RL fS (w.alloc (.cells #[.slice A a.length c, .slice D b.length d] t)) (w.heap.size + 1) (some ⟨w.heap.size, 0, none⟩) 2 [(A, c, a), (D, d, b)] := by
  refine ⟨by simp, by simp, fun _ => ⟨_, _, rfl, by omega, fun k z hk => ?_⟩⟩
  have h0 := heap_alloc_new w (.cells #[.slice A a.length c, .slice D b.length d] t)
  rw [cell_of_row _ _ _ _ _ _ h0, Nat.zero_add]
  match k, hk with
  | 0, hk => simp at hk; subst hk; rfl
  | 1, hk => simp at hk; subst hk; rfl
theorem RL_one (w : World) (t : TypeId) (A : Option Addr) (c : Nat) (a : List Nat) :
    RL fS (w.alloc (.cells #[.slice A a.length c] t)) (w.heap.size + 1) (some ⟨w.heap.size, 0, none⟩) 1 [(A, c, a)] := by
  refine ⟨by simp, by simp, fun _ => ⟨_, _, rfl, by omega, fun k z hk => ?_⟩⟩
  have h0 := heap_alloc_new w (.cells #[.slice A a.length c] t)
  rw [cell_of_row _ _ _ _ _ _ h0, Nat.zero_add]
  match k, hk with
  | 0, hk => simp at hk; subst hk; rfl

end Go.Proofs.Ytabcnpcfknlmlaa
