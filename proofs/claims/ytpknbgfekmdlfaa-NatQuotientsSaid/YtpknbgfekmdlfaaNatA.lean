/- Walks: Trim, norm, Sound, fit, check, Of. -/
import Derived.Test.YtpknbgfekmdlfaaWords
namespace Go.Proofs.Ytpknbgfekmdlfaa
open Go.RowKit

theorem ret_int {k : IntKind} {a b : Int} (h : a = b) : Ending.returned (.int k a) = .returned (.int k b) := by rw [h]
theorem ret_slice {A : Option Addr} {c a b : Nat} (h : a = b) : Ending.returned (.slice A a c) = .returned (.slice A b c) := by rw [h]
theorem ret_bool {a b : Bool} (h : a = b) : Ending.returned (.bool a) = .returned (.bool b) := by rw [h]

theorem trim_any (A : Option Addr) (c n : Nat) (l : List Nat) (w : World) (hn : n = l.length) (h : RW w w.heap.size A c l) :
    Calls Try.prog 52 #[.slice A n c] w fun e w' => e = .returned (.int .i64 (trimN l l.length)) ∧ w = w' := by
  subst hn
  have hbig := h.big
  go_enter Try.func52, Try.ntmps52
  go_wp2
  go_loop [3] (fun n => ∃ k : Nat, k ≤ l.length ∧ n = .int .i64 k ∧ Hid (trimN l k = trimN l l.length)) (fun i => (intOf i).toNat)
  case atStart => exact ⟨l.length, Nat.le_refl _, rfl, rfl⟩
  case round =>
    obtain ⟨k, hk, rfl, hk2⟩ := hrel
    by_cases h0 : 0 < k
    · obtain ⟨b, off, rfl, hb, hx⟩ := h.at_ (by omega)
      have hxk := hx (k-1) (by omega)
      clear h hx
      obtain ⟨j, rfl⟩ : ∃ j, k = j+1 := ⟨k-1, by omega⟩
      rw [Nat.add_sub_cancel] at hxk
      by_cases hz : wd l j = 0
      · have hz' : ((wd l j : Int) == 0) = true := by simp [hz]
        have HZ := Lib.hid hz; clear hz
        go_wp2
        go_round
        case rel => exact ⟨j, by omega, by go_num, by have h2 := hk2.out; have h3 := HZ.out; simp only [trimN, h3, if_true] at h2; exact h2⟩
        case measure => simp [intOf]
      · have hz' : ((wd l j : Int) == 0) = false := by simp [hz]
        go_wp2
        go_ret
        refine ⟨?_, rfl⟩
        rw [← hk2.out]
        exact ret_int (by simp only [trimN, hz, if_false]; rfl)
    · obtain rfl : k = 0 := by omega
      go_wp2
      go_ret
      refine ⟨?_, rfl⟩
      rw [← hk2.out]
      rfl

theorem norm_any (A : Option Addr) (c n : Nat) (l : List Nat) (w : World) (hn : n = l.length) (h : RW w w.heap.size A c l) :
    Calls Try.prog 53 #[.slice A n c] w fun e w' => e = .returned (.slice A (digs (val l)).length c) ∧ w = w' := by
  have ht := trim_any A c n l w hn h
  subst hn
  have hbig := h.big
  have hlc := h.lc
  have htl := trimN_le l l.length
  have HT : Hid (trimN l l.length = (digs (val l)).length) := trim_len h.b32
  go_enter Try.func53, Try.ntmps53
  go_wp2_with (go_at_call 52; refine ht.mono ?_; rintro e w' ⟨rfl, rfl⟩)
  go_ret
  exact ⟨by rw [HT.out]; rfl, rfl⟩

def soundB (l : List Nat) : Bool := decide (l.length ≤ 512 ∧ l = digs (val l))

theorem sound_any (A : Option Addr) (c n : Nat) (l : List Nat) (w : World) (hn : n = l.length) (h : RW w w.heap.size A c l) :
    Calls Try.prog 22 #[.slice A n c] w fun e w' => e = .returned (.bool (soundB l)) ∧ w = w' := by
  have ht := trim_any A c n l w hn h
  subst hn
  have hbig := h.big
  have htl := trimN_le l l.length
  have HT : Hid (trimN l l.length = l.length ↔ l = digs (val l)) := trim_full h.b32
  by_cases h5 : l.length ≤ 512
  · have h5' : decide ((l.length : Int) ≤ 512) = true := by simp; omega
    by_cases he : trimN l l.length = l.length
    · have he' : ((trimN l l.length : Int) == (l.length : Int)) = true := by simp; omega
      have HE := Lib.hid he; clear he
      go_enter Try.func22, Try.ntmps22
      go_wp2_with (go_at_call 52; refine ht.mono ?_; rintro e w' ⟨rfl, rfl⟩)
      go_ret
      refine ⟨ret_bool ?_, rfl⟩
      have := HT.out.1 HE.out
      simp [soundB, h5, ← this]
    · have he' : ((trimN l l.length : Int) == (l.length : Int)) = false := by simp; omega
      go_enter Try.func22, Try.ntmps22
      go_wp2_with (go_at_call 52; refine ht.mono ?_; rintro e w' ⟨rfl, rfl⟩)
      go_ret
      refine ⟨ret_bool ?_, rfl⟩
      have : ¬ l = digs (val l) := fun h => he (HT.out.2 h)
      simp [soundB, this]
  · have h5' : decide ((l.length : Int) ≤ 512) = false := by simp; omega
    go_enter Try.func22, Try.ntmps22
    go_wp2_with (go_at_call 52; refine ht.mono ?_; rintro e w' ⟨rfl, rfl⟩)
    go_ret
    refine ⟨ret_bool ?_, rfl⟩
    simp [soundB, h5]

/-- what fit answers -/
theorem fit_any (A : Option Addr) (c n : Nat) (w : World) (hb : n ≤ 35184372088832) :
    Calls Try.prog 41 #[.slice A n c] w fun e w' => e = .returned (if n ≤ 512 then .tuple #[.slice A n c, .int .i64 0] else .tuple #[.slice none 0 0, .int .i64 4]) ∧ w = w' := by
  by_cases h5 : n ≤ 512
  · rw [if_pos h5]
    have h6 : ¬ 512 < n := by omega
    go_enter Try.func41, Try.ntmps41
    go_wp2
    go_ret2
    exact ⟨rfl, rfl⟩
  · rw [if_neg h5]
    have h6 : 512 < n := by omega
    go_enter Try.func41, Try.ntmps41
    go_wp2
    go_ret2
    exact ⟨rfl, rfl⟩

def fS (t : Option Addr × Nat × List Nat) : Value := .slice t.1 t.2.2.length t.2.1
def chk (L : List (Option Addr × Nat × List Nat)) : Int := if L.all (fun t => soundB t.2.2) then 0 else 2

theorem check_any (A : Option Addr) (c n : Nat) (L : List (Option Addr × Nat × List Nat)) (w : World) (hn : n = L.length) (h : RL fS w w.heap.size A c L) (hL : ∀ t ∈ L, RW w w.heap.size t.1 t.2.1 t.2.2) :
    Calls Try.prog 40 #[.slice A n c] w fun e w' => e = .returned (.int .i64 (chk L)) ∧ w = w' := by
  subst hn
  have hbig := h.big
  go_enter Try.func40, Try.ntmps40
  go_wp2
  go_loop [7] (fun n => ∃ k : Nat, k ≤ L.length ∧ n = .int .i64 k ∧ Hid ((L.take k).all (fun t => soundB t.2.2) = true)) (fun i => L.length - (intOf i).toNat)
  case atStart => exact ⟨0, Nat.zero_le _, rfl, rfl⟩
  case round =>
    obtain ⟨k, hk, rfl, hk2⟩ := hrel
    by_cases h0 : k < L.length
    · obtain ⟨b, off, rfl, hb, hx⟩ := h.at_ (by omega)
      rcases ht : L[k] with ⟨A1, c1, l1⟩
      have hxk := hx k _ (List.getElem?_eq_getElem h0)
      have hr := hL _ (List.getElem_mem h0)
      rw [ht] at hxk hr
      have hs := sound_any A1 c1 l1.length l1 w rfl hr
      clear hr hx h
      simp only [fS] at hxk
      have HT := Lib.hid ht; clear ht
      cases hsb : soundB l1 with
      | true =>
        rw [hsb] at hs
        have HS := Lib.hid hsb; clear hsb
        go_wp2_with (go_at_call 22; refine hs.mono ?_; rintro e w' ⟨rfl, rfl⟩)
        go_round
        case rel => exact ⟨k + 1, by omega, by go_num, by show _ = _; rw [List.take_succ_eq_append_getElem h0, List.all_append, hk2.out, HT.out]; simp [HS.out]⟩
        case measure => simp [intOf]; omega
      | false =>
        rw [hsb] at hs
        have HS := Lib.hid hsb; clear hsb
        go_wp2_with (go_at_call 22; refine hs.mono ?_; rintro e w' ⟨rfl, rfl⟩)
        go_ret
        refine ⟨?_, rfl⟩
        have : L.all (fun t => soundB t.2.2) = false := by
          rw [List.all_eq_false]
          exact ⟨L[k], List.getElem_mem h0, by rw [HT.out]; simp [HS.out]⟩
        exact ret_int (by simp [chk, this])
    · obtain rfl : k = L.length := by omega
      go_wp2
      go_ret
      refine ⟨?_, rfl⟩
      have := hk2.out
      rw [List.take_length] at this
      exact ret_int (by simp [chk, this])
end Go.Proofs.Ytpknbgfekmdlfaa
