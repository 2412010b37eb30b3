/- Plain: bytes as a number, the lowest first; put into words. -/
import Derived.Test.YtabcnpcfknlmlaaPlainB
import Derived.Test.YtabcnpcfknlmlaaBytesT
namespace Go.Proofs.Ytabcnpcfknlmlaa

def lv : List UInt8 → Nat
  | [] => 0
  | x :: l => x.toNat + 256 * lv l
theorem lv_lt : ∀ l : List UInt8, lv l < 256 ^ l.length
  | [] => by simp [lv]
  | x :: l => by
    have h1 := lv_lt l
    have h2 := x.toNat_lt
    simp only [lv, List.length_cons, Nat.pow_succ]
    omega
theorem lv_append : ∀ a b : List UInt8, lv (a ++ b) = lv a + 256 ^ a.length * lv b
  | [], b => by simp [lv]
  | x :: a, b => by
    simp only [List.cons_append, lv, List.length_cons, lv_append a b, Nat.pow_succ]
    rw [Nat.mul_add, Nat.mul_comm (256 ^ a.length) 256, ← Nat.mul_assoc, Nat.add_assoc]
theorem take_bg {l : List UInt8} {k : Nat} (h : k < l.length) : l.take (k + 1) = l.take k ++ [bg l k] := by
  rw [List.take_add_one, bg_get? h]; rfl
theorem lv_take_succ {l : List UInt8} {k : Nat} (h : k < l.length) : lv (l.take (k + 1)) = lv (l.take k) + 256 ^ k * (bg l k).toNat := by
  rw [take_bg h, lv_append, List.length_take, Nat.min_eq_left (by omega)]
  simp [lv]
theorem pow8 (k : Nat) : 256 ^ k = 2 ^ (8 * k) := by rw [Nat.pow_mul]
theorem pow_parts (k : Nat) : 256 ^ k = 2 ^ (8 * (k % 4)) * Wp (k / 4) := by
  rw [pow8, Wp_eq, ← Nat.pow_add]; congr 1; omega
theorem wd_low {o : List Nat} (hb : B32 o) {k : Nat} (h : val o < 256 ^ k) : wd o (k / 4) < 2 ^ (8 * (k % 4)) := by
  rw [wd_val hb]
  refine Nat.lt_of_le_of_lt (Nat.mod_le _ _) ?_
  rw [Nat.div_lt_iff_lt_mul (Wp_pos _), ← pow_parts]; exact h
theorem shlo_byte {x : Nat} (hx : x < 256) (k : Nat) : shlo x (8 * (k % 4)) = x * 2 ^ (8 * (k % 4)) := by
  unfold shlo
  refine Nat.mod_eq_of_lt ?_
  have h4 : k % 4 < 4 := Nat.mod_lt _ (by omega)
  have : 2 ^ (8 * (k % 4)) ≤ 2 ^ 24 := Nat.pow_le_pow_right (by omega) (by omega)
  have h3 : x * 2 ^ (8 * (k % 4)) ≤ 255 * 2 ^ 24 := Nat.mul_le_mul (by omega) this
  omega
theorem put_step {o : List Nat} {l : List UInt8} {k : Nat} (hk : k < l.length) (ho : k / 4 < o.length) (h : val o = lv (l.take k)) :
    val (o.set (k / 4) (wd o (k / 4) + shlo (bg l k).toNat (8 * (k % 4)))) = lv (l.take (k + 1)) := by
  have h1 := val_set (o := o) (wd o (k / 4) + shlo (bg l k).toNat (8 * (k % 4))) ho
  rw [lv_take_succ hk, ← h, pow_parts]
  rw [shlo_byte (bg l k).toNat_lt] at h1 ⊢
  rw [Nat.add_mul] at h1
  have e : 2 ^ (8 * (k % 4)) * Wp (k / 4) * (bg l k).toNat = (bg l k).toNat * 2 ^ (8 * (k % 4)) * Wp (k / 4) := by
    rw [Nat.mul_comm _ (bg l k).toNat, Nat.mul_assoc]
  rw [e]
  omega
/-- the highest bit -/
theorem lv_last {l : List UInt8} {n : Nat} (hl : l.length = n + 1) : lv l = lv (l.take n) + 256 ^ n * (bg l n).toNat := by
  have := lv_take_succ (l := l) (k := n) (by omega)
  rw [List.take_of_length_le (by omega)] at this
  exact this
theorem lv_high {l : List UInt8} {n : Nat} (hl : l.length = n + 1) : 128 ≤ (bg l n).toNat ↔ 128 * 256 ^ n ≤ lv l := by
  rw [lv_last hl]
  have h1 := lv_lt (l.take n)
  rw [List.length_take, Nat.min_eq_left (by omega)] at h1
  have h2 := (bg l n).toNat_lt
  generalize lv (l.take n) = a at *
  generalize 256 ^ n = p at *
  generalize (bg l n).toNat = x at *
  constructor
  · intro h
    have := Nat.mul_le_mul_left p h
    rw [Nat.mul_comm p 128] at this
    omega
  · intro h
    rcases Nat.lt_or_ge x 128 with hx | hx
    · have := Nat.mul_le_mul_left p (Nat.succ_le_of_lt hx)
      rw [Nat.succ_eq_add_one, Nat.mul_add, Nat.mul_one, Nat.mul_comm p 128] at this
      omega
    · exact hx
end Go.Proofs.Ytabcnpcfknlmlaa
