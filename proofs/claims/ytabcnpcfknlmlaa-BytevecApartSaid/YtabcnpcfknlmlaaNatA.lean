/- Walks: Trim, norm, Sound, fit, check, Of. -/
import Derived.Test.YtabcnpcfknlmlaaWords
namespace Go.Proofs.Ytabcnpcfknlmlaa
open Go.RowKit

theorem ret_int {k : IntKind} {a b : Int} (h : a = b) : Ending.returned (.int k a) = .returned (.int k b) := by rw [h]
theorem ret_slice {A : Option Addr} {c a b : Nat} (h : a = b) : Ending.returned (.slice A a c) = .returned (.slice A b c) := by rw [h]
theorem ret_bool {a b : Bool} (h : a = b) : Ending.returned (.bool a) = .returned (.bool b) := by rw [h]

theorem trim_any (A : Option Addr) (c n : Nat) (l : List Nat) (w : World) (hn : n = l.length) (h : RW w w.heap.size A c l) :
    Calls Try.prog 27 #[.slice A n c] w fun e w' => e = .returned (.int .i64 (trimN l l.length)) ∧ w = w' := by
  subst hn
  have hbig := h.big
  go_enter Try.func27, Try.ntmps27
  go_wp2
  go_loop [3] (fun n => ∃ k : Nat, k ≤ l.length ∧ n = .int .i64 k ∧ Hid (trimN l k = trimN l l.length)) (fun i => (intOf i).toNat)
  case atStart => exact ⟨l.length, Nat.le_refl _, rfl, rfl⟩
  case round =>
    obtain ⟨k, hk, rfl, hk2⟩ := hrel
    by_cases h0 : 0 < k
    · obtain ⟨b, off, rfl, hb, hx⟩ := h.at_ (by omega)
      have hxk := hx (k-1) (by omega)
      clear h hx
      obtain ⟨j, rfl⟩ : ∃ j, k = j+1 := ⟨k-1, by omega⟩
      rw [Nat.add_sub_cancel] at hxk
      by_cases hz : wd l j = 0
      · have hz' : ((wd l j : Int) == 0) = true := by simp [hz]
        have HZ := Lib.hid hz; clear hz
        go_wp2
        go_round
        case rel => exact ⟨j, by omega, by go_num, by have h2 := hk2.out; have h3 := HZ.out; simp only [trimN, h3, if_true] at h2; exact h2⟩
        case measure => simp [intOf]
      · have hz' : ((wd l j : Int) == 0) = false := by simp [hz]
        go_wp2
        go_ret
        refine ⟨?_, rfl⟩
        rw [← hk2.out]
        exact ret_int (by simp only [trimN, hz, if_false]; rfl)
    · obtain rfl : k = 0 := by omega
      go_wp2
      go_ret
      refine ⟨?_, rfl⟩
      rw [← hk2.out]
      rfl

theorem norm_any (A : Option Addr) (c n : Nat) (l : List Nat) (w : World) (hn : n = l.length) (h : RW w w.heap.size A c l) :
    Calls Try.prog 57 #[.slice A n c] w fun e w' => e = .returned (.slice A (digs (val l)).length c) ∧ w = w' := by
  have ht := trim_any A c n l w hn h
  subst hn
  have hbig := h.big
  have hlc := h.lc
  have htl := trimN_le l l.length
  have HT : Hid (trimN l l.length = (digs (val l)).length) := trim_len h.b32
  go_enter Try.func57, Try.ntmps57
  go_wp2_with (go_at_call 27; refine ht.mono ?_; rintro e w' ⟨rfl, rfl⟩)
  go_ret
  exact ⟨by rw [HT.out]; rfl, rfl⟩

def soundB (l : List Nat) : Bool := decide (l.length ≤ 512 ∧ l = digs (val l))

theorem sound_any (A : Option Addr) (c n : Nat) (l : List Nat) (w : World) (hn : n = l.length) (h : RW w w.heap.size A c l) :
    Calls Try.prog 80 #[.slice A n c] w fun e w' => e = .returned (.bool (soundB l)) ∧ w = w' := by
  have ht := trim_any A c n l w hn h
  subst hn
  have hbig := h.big
  have htl := trimN_le l l.length
  have HT : Hid (trimN l l.length = l.length ↔ l = digs (val l)) := trim_full h.b32
  by_cases h5 : l.length ≤ 512
  · have h5' : decide ((l.length : Int) ≤ 512) = true := by simp; omega
    by_cases he : trimN l l.length = l.length
    · have he' : ((trimN l l.length : Int) == (l.length : Int)) = true := by simp; omega
      have HE := Lib.hid he; clear he
      go_enter Try.func80, Try.ntmps80
      go_wp2_with (go_at_call 27; refine ht.mono ?_; rintro e w' ⟨rfl, rfl⟩)
      go_ret
      refine ⟨ret_bool ?_, rfl⟩
      have := HT.out.1 HE.out
      simp [soundB, h5, ← this]
    · have he' : ((trimN l l.length : Int) == (l.length : Int)) = false := by simp; omega
      go_enter Try.func80, Try.ntmps80
      go_wp2_with (go_at_call 27; refine ht.mono ?_; rintro e w' ⟨rfl, rfl⟩)
      go_ret
      refine ⟨ret_bool ?_, rfl⟩
      have : ¬ l = digs (val l) := fun h => he (HT.out.2 h)
      simp [soundB, this]
  · have h5' : decide ((l.length : Int) ≤ 512) = false := by simp; omega
    go_enter Try.func80, Try.ntmps80
    go_wp2_with (go_at_call 27; refine ht.mono ?_; rintro e w' ⟨rfl, rfl⟩)
    go_ret
    refine ⟨ret_bool ?_, rfl⟩
    simp [soundB, h5]

def fS (t : Option Addr × Nat × List Nat) : Value := .slice t.1 t.2.2.length t.2.1
def chk (L : List (Option Addr × Nat × List Nat)) : Int := if L.all (fun t => soundB t.2.2) then 0 else 2

end Go.Proofs.Ytabcnpcfknlmlaa
