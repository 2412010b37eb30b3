/- Merged texts: WtX. -/
import Derived.Test.YtbgggepdlkbpoaaGreatDoorGS
namespace Go.Proofs.YtbgggepdlkbpoaaGreatDoor

def byteN (u j : Nat) : UInt8 := UInt8.ofNat (u / 256 ^ j % 256)
theorem byteN_nat (u j : Nat) : (byteN u j).toNat = u / 256 ^ j % 256 := by
  unfold byteN; exact UInt8.toNat_ofNat_of_lt' (Nat.mod_lt _ (by omega))
/-- the first k of s bytes, then 0s -/
def tgt (u s k : Nat) : List UInt8 := (List.range s).map fun j => if j < k then byteN u j else 0
theorem tgt_len (u s k : Nat) : (tgt u s k).length = s := by simp [tgt]
theorem tgt_zero (u s : Nat) : tgt u s 0 = List.replicate s 0 := by
  unfold tgt
  apply List.ext_getElem
  · simp
  · intro j h1 h2; simp
theorem tgt_set {u s k : Nat} (_h : k < s) : (tgt u s k).set k (byteN u k) = tgt u s (k + 1) := by
  unfold tgt
  apply List.ext_getElem
  · simp
  · intro j h1 h2
    simp only [List.length_set, List.length_map, List.length_range] at h1
    rw [List.getElem_set]
    simp only [List.getElem_map, List.getElem_range]
    by_cases e : k = j
    · subst e; simp
    · rw [if_neg e]
      by_cases hj : j < k
      · rw [if_pos hj, if_pos (by omega)]
      · rw [if_neg hj, if_neg (by omega)]
theorem byteN_out {u k : Nat} (h : u < 256 ^ k) : byteN u k = 0 := by
  unfold byteN; rw [Nat.div_eq_of_lt h]; rfl
theorem tgt_out {u s k : Nat} (h : u < 256 ^ k) : tgt u s k = tgt u s (k + 1) := by
  unfold tgt
  refine List.map_congr_left fun j _ => ?_
  by_cases hj : j < k
  · rw [if_pos hj, if_pos (by omega)]
  · rw [if_neg hj]
    by_cases e : j = k
    · subst e; rw [if_pos (by omega), byteN_out h]
    · rw [if_neg (by omega)]
/-- all s bytes -/
def bytesU (u s : Nat) : List UInt8 := tgt u s s
theorem bytesU_len (u s : Nat) : (bytesU u s).length = s := tgt_len ..
theorem bytesU_succ (u s : Nat) : bytesU u (s + 1) = bytesU u s ++ [byteN u s] := by
  unfold bytesU tgt
  rw [List.range_succ, List.map_append]
  congr 1
  · refine List.map_congr_left fun j hj => ?_
    rw [List.mem_range] at hj
    rw [if_pos (by omega), if_pos hj]
  · simp
theorem lv_bytesU (u : Nat) : ∀ s : Nat, lv (bytesU u s) = u % 256 ^ s
  | 0 => by simp [bytesU, tgt, lv, Nat.mod_one]
  | s + 1 => by
    rw [bytesU_succ, lv_append, lv_bytesU u s, bytesU_len]
    simp only [lv, byteN_nat, Nat.mul_zero, Nat.add_zero]
    rw [Nat.pow_succ, Nat.mod_mul]
/-- a word's byte is the number's -/
theorem word_byte {l : List Nat} (hb : B32 l) (k : Nat) : wd l (k / 4) / 2 ^ (8 * (k % 4)) % 256 = val l / 256 ^ k % 256 := by
  rw [wd_val hb, pow_parts, Nat.mul_comm (2 ^ _), ← Nat.div_div_eq_div_mul]
  generalize val l / Wp (k / 4) = x
  have h4 : k % 4 < 4 := Nat.mod_lt _ (by omega)
  obtain h | h | h | h : k % 4 = 0 ∨ k % 4 = 1 ∨ k % 4 = 2 ∨ k % 4 = 3 := by omega
  all_goals rw [h]
  all_goals simp only [Nat.mul_zero, Nat.pow_zero, Nat.div_one, Nat.reduceMul, Nat.reducePow]
  all_goals omega
theorem pow_wx {s m : Nat} (h : 8 * s < 32 * m) : 256 ^ s < Wp m := by
  rw [pow8, Wp_eq]
  exact Nat.pow_lt_pow_right (by omega) h
end Go.Proofs.YtbgggepdlkbpoaaGreatDoor
