/- Walks: Size, Bits, Bit of both. -/
import Derived.Test.YtabcnpcfknlmlaaNatI
import Derived.Test.YtabcnpcfknlmlaaShelf
namespace Go.Proofs.Ytabcnpcfknlmlaa
open Go.RowKit

theorem bitLenAux_eq (f x : Nat) (h : x < 2 ^ f) : Lib.bitLenAux f x = blen x := by
  induction f generalizing x with
  | zero => have : x = 0 := by simpa using h
            subst this; rw [blen_zero]; rfl
  | succ f ih =>
    rw [Lib.bitLenAux]
    by_cases h0 : x = 0
    · subst h0; rw [if_pos rfl, blen_zero]
    · rw [if_neg h0, blen_pos h0, ih (x / 2) (by rw [Nat.pow_succ] at h; omega)]; omega
theorem bitLen_eq (x : Nat) (h : x < 4294967296) : Lib.bitLen x = blen x := bitLenAux_eq 64 x (by omega)
theorem len32_any (x : Nat) (w : World) (h : x < 4294967296) :
    Calls Try.prog 92 #[.int .u32 (x : Int)] w fun e w' => e = .returned (.int .i64 (blen x)) ∧ w = w' := by
  have h1 := Try.bits_Len32 (x : Int) w (by omega) (by omega)
  rw [Int.toNat_natCast, bitLen_eq x h] at h1
  exact h1.mono fun _ _ ⟨a, b⟩ => ⟨a, b.symm⟩
theorem blen32 {x : Nat} (h : x < 4294967296) : blen x ≤ 32 := blen_le.2 (by omega)

/-- the bits of a list without noughts at its end -/
theorem size_val {l : List Nat} {j : Nat} (hb : B32 l) (hl : l.length = j + 1) (h : wd l j ≠ 0) : blen (val l) = 32 * j + blen (wd l j) := by
  have h1 := val_take_succ (l := l) (k := j) (by omega)
  rw [← hl, List.take_length] at h1
  have h2 : Wp j ≤ val l := by
    have := Nat.mul_le_mul_right (Wp j) (show 1 ≤ wd l j by omega)
    omega
  rw [Wp_eq] at h2
  rw [blen_div (32 * j) h2, ← Wp_eq]
  have h3 : val l / Wp j = wd l j := by
    rw [h1, Nat.add_mul_div_right _ _ (Wp_pos j)]
    rw [Nat.div_eq_of_lt (val_take_lt hb j)]; omega
  rw [h3]; omega

def bitsA (l : List Nat) : Int := if soundB l then blen (val l) else 0
theorem and1_u32 (x : Nat) (h : x < 4294967296) : bits .and .u32 (x : Int) 1 = ((x % 2 : Nat) : Int) := by
  rw [show (1 : Int) = ((1 : Nat) : Int) from rfl, u32_and_nat x 1 h (by omega), Nat.and_one_is_mod]
theorem shr_cast (x s : Nat) (h : x < 4294967296) : (x : Int) / 2 ^ s % 4294967296 = ((x / 2 ^ s : Nat) : Int) := by
  have h1 : x / 2 ^ s ≤ x := Nat.div_le_self _ _
  have h2 : ((x / 2 ^ s : Nat) : Int) = (x : Int) / 2 ^ s := by simp
  generalize x / 2 ^ s = y at *
  rw [← h2]; omega
theorem bit_any (A : Option Addr) (c n : Nat) (l : List Nat) (w : World) (i : Int) (k : Nat) (hi : i = (k : Int)) (hk : k ≤ 4503599627370496) (hn : n = l.length) (h : RW w w.heap.size A c l) :
    Calls Try.prog 60 #[.slice A n c, .int .i64 i] w fun e w' => e = .returned (.int .u32 (bitN (val l) k)) ∧ w = w' := by
  subst hi hn
  have h1 := word_k A c _ l w ((k : Int) / 32) (k / 32) (by omega) rfl h
  have hwl := wd_lt h.b32 (k / 32)
  have hb := Lib.hid (bit_wd h.b32 k)
  clear h
  go_enter Try.func60, Try.ntmps60
  go_wp2_with fail
  refine h1.mono ?_; rintro e w' ⟨rfl, rfl⟩
  go_wp2_with fail
  go_ret
  refine ⟨?_, rfl⟩
  rw [← hb.out]
  refine ret_int ?_
  rw [← and1_u32 _ (Nat.lt_of_le_of_lt (Nat.div_le_self _ _) hwl), ← shr_cast _ _ hwl]

theorem bitN_zero_of {n k : Nat} (h : n < 2 ^ (k + 1)) (h0 : bitN n k = 0) : n < 2 ^ k := by
  rw [bitN_top h] at h0
  split at h0
  · cases h0
  · omega
theorem bitN_one_of {n k : Nat} (h : n < 2 ^ (k + 1)) (h0 : bitN n k ≠ 0) : blen n = k + 1 := by
  rw [bitN_top h] at h0
  split at h0
  · have h1 := (blen_le (n := n) (k := k + 1)).2 h
    have h2 : ¬ blen n ≤ k := by rw [blen_le]; omega
    omega
  · exact absurd rfl h0
theorem val_lt2 {l : List Nat} (h : B32 l) : val l < 2 ^ (32 * l.length) := by rw [← Wp_eq]; exact val_lt h

set_option maxHeartbeats 1000000 in
theorem rsize_any (A : Option Addr) (c n : Nat) (l : List Nat) (w : World) (hn : n = l.length) (h : RW w w.heap.size A c l) :
    Calls Try.prog 35 #[.slice A n c] w fun e w' => e = .returned (.int .i64 (blen (val l))) ∧ w = w' := by
  subst hn
  have hbig := h.big
  have hv := Lib.hid (val_lt2 h.b32)
  go_enter Try.func35, Try.ntmps35
  go_wp2
  go_loop [3] (fun n => ∃ k : Nat, k ≤ 32 * l.length ∧ n = .int .i64 k ∧ Hid (val l < 2 ^ k)) (fun i => (intOf i).toNat)
  case atStart => exact ⟨32 * l.length, Nat.le_refl _, by go_num, hv⟩
  case round =>
    obtain ⟨k, hk, rfl, hk2⟩ := hrel
    clear hv
    by_cases h0 : 0 < k
    · obtain ⟨j, rfl⟩ : ∃ j, k = j+1 := ⟨k-1, by omega⟩
      have hB := bit_any A c _ l w (j : Int) j rfl (by omega) rfl h
      clear h
      by_cases hz : bitN (val l) j = 0
      · have hz' : ((bitN (val l) j : Int) == 0) = true := by simp [hz]
        have HZ := Lib.hid (bitN_zero_of hk2.out hz); clear hz
        go_wp2_with (go_at_call 60; refine hB.mono ?_; rintro e w' ⟨rfl, rfl⟩)
        go_round
        case rel => exact ⟨j, by omega, by go_num, HZ⟩
        case measure => simp [intOf]
      · have hz' : ((bitN (val l) j : Int) == 0) = false := beq_eq_false_iff_ne.2 (by omega)
        have HZ := Lib.hid (bitN_one_of hk2.out hz); clear hz
        go_wp2_with (go_at_call 60; refine hB.mono ?_; rintro e w' ⟨rfl, rfl⟩)
        go_ret
        refine ⟨?_, rfl⟩
        rw [HZ.out]
        exact ret_int (by omega)
    · obtain rfl : k = 0 := by omega
      have hv0 : Hid (blen (val l) = 0) := by
        have h1 := hk2.out
        show _ = _
        have : val l = 0 := by simpa using h1
        rw [this, blen_zero]
      go_wp2
      go_ret
      exact ⟨by rw [hv0.out]; rfl, rfl⟩
end Go.Proofs.Ytabcnpcfknlmlaa
