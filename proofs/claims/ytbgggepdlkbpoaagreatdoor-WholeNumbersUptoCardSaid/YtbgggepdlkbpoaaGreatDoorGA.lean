/- Merged texts: Plain, Mem, Words, NatA. -/
import Derived.WalkKit
import Derived.Lib.Hide
import Derived.BigQuiet
import Derived.Deep.QuietTactic
import Derived.Deep.RegionWith
import Derived.Deep.Draws
import Derived.Maps.AppendAt
import Derived.Test.YtbgggepdlkbpoaaGreatDoorProg
namespace Go.Proofs.YtbgggepdlkbpoaaGreatDoor

/-- what the words of a list, the lowest first, are as a number -/
def val : List Nat → Nat
  | [] => 0
  | x :: l => x + 4294967296 * val l

/-- the words of a number -/
def digs (n : Nat) : List Nat := if h : n = 0 then [] else (n % 4294967296) :: digs (n / 4294967296)
termination_by n
decreasing_by omega

def wd (l : List Nat) (k : Nat) : Nat := l.getD k 0
def B32 (l : List Nat) : Prop := ∀ x ∈ l, x < 4294967296
def Wp (k : Nat) : Nat := 4294967296 ^ k

theorem Wp_zero : Wp 0 = 1 := rfl
theorem Wp_succ (k : Nat) : Wp (k + 1) = 4294967296 * Wp k := by unfold Wp; rw [Nat.pow_succ, Nat.mul_comm]
theorem Wp_pos (k : Nat) : 0 < Wp k := by unfold Wp; exact Nat.pow_pos (by omega)
theorem Wp_add (a b : Nat) : Wp (a + b) = Wp a * Wp b := by unfold Wp; exact Nat.pow_add ..
theorem Wp_eq (k : Nat) : Wp k = 2 ^ (32 * k) := by unfold Wp; rw [Nat.pow_mul]
theorem Wp_mono {a b : Nat} (h : a ≤ b) : Wp a ≤ Wp b := by unfold Wp; exact Nat.pow_le_pow_right (by omega) h

theorem digs_zero : digs 0 = [] := by rw [digs]; simp
theorem digs_pos {n : Nat} (h : n ≠ 0) : digs n = (n % 4294967296) :: digs (n / 4294967296) := by rw [digs]; simp [h]

theorem val_digs (n : Nat) : val (digs n) = n := by
  induction n using Nat.strongRecOn with
  | ind n ih =>
    by_cases h : n = 0
    · subst h; simp [digs_zero, val]
    · rw [digs_pos h, val, ih _ (by omega)]; omega

theorem B32_nil : B32 [] := by intro x h; cases h
theorem B32_cons {x : Nat} {l : List Nat} (hx : x < 4294967296) (h : B32 l) : B32 (x :: l) := by
  intro y hy
  rcases List.mem_cons.1 hy with rfl | h2
  · exact hx
  · exact h _ h2
theorem B32_head {x : Nat} {l : List Nat} (h : B32 (x :: l)) : x < 4294967296 := h x (by simp)
theorem B32_tail {x : Nat} {l : List Nat} (h : B32 (x :: l)) : B32 l := fun y hy => h y (by simp [hy])
theorem B32_append {a b : List Nat} (ha : B32 a) (hb : B32 b) : B32 (a ++ b) := by
  intro x hx
  rcases List.mem_append.1 hx with h | h
  · exact ha _ h
  · exact hb _ h
theorem B32_take {l : List Nat} (h : B32 l) (k : Nat) : B32 (l.take k) := fun x hx => h x (List.mem_of_mem_take hx)
theorem B32_drop {l : List Nat} (h : B32 l) (k : Nat) : B32 (l.drop k) := fun x hx => h x (List.mem_of_mem_drop hx)
theorem B32_set {l : List Nat} (h : B32 l) (k : Nat) {x : Nat} (hx : x < 4294967296) : B32 (l.set k x) := by
  intro y hy
  rcases List.mem_or_eq_of_mem_set hy with h2 | rfl
  · exact h _ h2
  · exact hx
theorem B32_replicate (n : Nat) : B32 (List.replicate n 0) := by
  intro x hx
  rw [List.eq_of_mem_replicate hx]; omega

theorem B32_digs (n : Nat) : B32 (digs n) := by
  induction n using Nat.strongRecOn with
  | ind n ih =>
    by_cases h : n = 0
    · subst h; rw [digs_zero]; exact B32_nil
    · rw [digs_pos h]; exact B32_cons (Nat.mod_lt _ (by omega)) (ih _ (by omega))

theorem wd_lt {l : List Nat} (h : B32 l) (k : Nat) : wd l k < 4294967296 := by
  unfold wd
  by_cases hk : k < l.length
  · rw [List.getD_eq_getElem?_getD, List.getElem?_eq_getElem hk]; exact h _ (List.getElem_mem hk)
  · rw [List.getD_eq_getElem?_getD, List.getElem?_eq_none (by omega)]; simp
theorem wd_out {l : List Nat} {k : Nat} (h : l.length ≤ k) : wd l k = 0 := by
  unfold wd; rw [List.getD_eq_getElem?_getD, List.getElem?_eq_none h]; rfl
theorem wd_zero (x : Nat) (l : List Nat) : wd (x :: l) 0 = x := rfl
theorem wd_succ (x : Nat) (l : List Nat) (k : Nat) : wd (x :: l) (k + 1) = wd l k := rfl
theorem wd_nil (k : Nat) : wd [] k = 0 := rfl
theorem wd_get {l : List Nat} {k : Nat} (h : k < l.length) : l[k] = wd l k := by
  unfold wd; rw [List.getD_eq_getElem?_getD, List.getElem?_eq_getElem h]; rfl
theorem wd_get? {l : List Nat} {k : Nat} (h : k < l.length) : l[k]? = some (wd l k) := by
  rw [List.getElem?_eq_getElem h, wd_get h]
theorem wd_set_eq {l : List Nat} {k x : Nat} (h : k < l.length) : wd (l.set k x) k = x := by
  unfold wd; simp [List.getD_eq_getElem?_getD, h]
theorem wd_set_ne {l : List Nat} {k j x : Nat} (h : k ≠ j) : wd (l.set k x) j = wd l j := by
  unfold wd; simp [List.getD_eq_getElem?_getD, h]
theorem wd_append_left {a b : List Nat} {k : Nat} (h : k < a.length) : wd (a ++ b) k = wd a k := by
  unfold wd; simp [List.getD_eq_getElem?_getD, List.getElem?_append, h]
theorem wd_append_right {a b : List Nat} {k : Nat} : wd (a ++ b) (a.length + k) = wd b k := by
  unfold wd; simp only [List.getD_eq_getElem?_getD]; rw [List.getElem?_append_right (by omega), Nat.add_sub_cancel_left]
theorem wd_take {l : List Nat} {k n : Nat} (h : k < n) : wd (l.take n) k = wd l k := by
  unfold wd; simp [List.getD_eq_getElem?_getD, h]
theorem wd_drop (l : List Nat) (k n : Nat) : wd (l.drop n) k = wd l (n + k) := by
  unfold wd; simp [List.getD_eq_getElem?_getD, List.getElem?_drop]
theorem wd_replicate (n k : Nat) : wd (List.replicate n 0) k = 0 := by
  unfold wd; simp [List.getD_eq_getElem?_getD, List.getElem?_replicate]; split <;> rfl
theorem wd_ext {a b : List Nat} (hl : a.length = b.length) (h : ∀ k, k < a.length → wd a k = wd b k) : a = b := by
  refine List.ext_getElem hl fun k h1 h2 => ?_
  rw [wd_get h1, wd_get h2]; exact h k h1

theorem val_one (x : Nat) : val [x] = x := by simp [val]
theorem val_append (a b : List Nat) : val (a ++ b) = val a + Wp a.length * val b := by
  induction a with
  | nil => simp [val, Wp_zero]
  | cons x a ih => simp only [List.cons_append, val, ih, List.length_cons, Wp_succ, Nat.mul_add, Nat.mul_assoc, Nat.add_assoc]
theorem val_lt {l : List Nat} (h : B32 l) : val l < Wp l.length := by
  induction l with
  | nil => simp [val, Wp_zero]
  | cons x l ih =>
    have := ih (B32_tail h); have hx := B32_head h
    simp only [val, List.length_cons, Wp_succ]; omega
theorem val_replicate (n : Nat) : val (List.replicate n 0) = 0 := by
  induction n with
  | zero => rfl
  | succ n ih => simp [List.replicate_succ, val, ih]
theorem take_succ_wd {l : List Nat} {k : Nat} (h : k < l.length) : l.take (k + 1) = l.take k ++ [wd l k] := by
  rw [List.take_succ_eq_append_getElem h, wd_get h]
theorem val_take_succ {l : List Nat} {k : Nat} (h : k < l.length) : val (l.take (k + 1)) = val (l.take k) + wd l k * Wp k := by
  rw [take_succ_wd h, val_append, List.length_take, Nat.min_eq_left (Nat.le_of_lt h), Nat.mul_comm]
  simp only [val, Nat.mul_zero, Nat.add_zero]
theorem val_take_out {l : List Nat} {k : Nat} (h : l.length ≤ k) : val (l.take (k + 1)) = val (l.take k) := by
  rw [List.take_of_length_le h, List.take_of_length_le (by omega)]
theorem val_take_succ' (l : List Nat) (k : Nat) : val (l.take (k + 1)) = val (l.take k) + wd l k * Wp k := by
  by_cases h : k < l.length
  · exact val_take_succ h
  · rw [val_take_out (by omega), wd_out (by omega)]; simp
theorem val_take_set {l : List Nat} {k x : Nat} (h : k < l.length) : val ((l.set k x).take (k + 1)) = val (l.take k) + x * Wp k := by
  rw [val_take_succ (by simpa using h), wd_set_eq h, List.take_set_of_le (Nat.le_refl _)]
theorem val_take_set_le {l : List Nat} {k j x : Nat} (h : j ≤ k) : val ((l.set k x).take j) = val (l.take j) := by
  rw [List.take_set_of_le h]
theorem val_take_all {l : List Nat} {k : Nat} (h : l.length ≤ k) : val (l.take k) = val l := by rw [List.take_of_length_le h]
theorem val_split (l : List Nat) (k : Nat) : val l = val (l.take k) + Wp (min k l.length) * val (l.drop k) := by
  conv => lhs; rw [← List.take_append_drop k l]
  rw [val_append, List.length_take]
theorem val_take_lt {l : List Nat} (h : B32 l) (k : Nat) : val (l.take k) < Wp k :=
  Nat.lt_of_lt_of_le (val_lt (B32_take h k)) (Wp_mono (by rw [List.length_take]; omega))

/-- the places without the noughts at the end -/
def trimN (l : List Nat) : Nat → Nat
  | 0 => 0
  | n + 1 => if wd l n = 0 then trimN l n else n + 1
theorem trimN_le (l : List Nat) (n : Nat) : trimN l n ≤ n := by
  induction n with
  | zero => simp [trimN]
  | succ n ih => simp only [trimN]; split <;> omega
theorem val_trimN (l : List Nat) (n : Nat) : val (l.take (trimN l n)) = val (l.take n) := by
  induction n with
  | zero => rfl
  | succ n ih =>
    simp only [trimN]
    split
    · rename_i h; rw [ih, val_take_succ', h]; simp
    · rfl
/-- a list without noughts at its end -/
def Nrm (l : List Nat) : Prop := l = [] ∨ wd l (l.length - 1) ≠ 0
theorem Nrm_nil : Nrm [] := .inl rfl
theorem Nrm_tail {x : Nat} {l : List Nat} (h : Nrm (x :: l)) : Nrm l := by
  cases l with
  | nil => exact .inl rfl
  | cons y l =>
    right
    rcases h with h | h
    · cases h
    · simpa [wd] using h
theorem digs_val {l : List Nat} (hb : B32 l) (hn : Nrm l) : digs (val l) = l := by
  induction l with
  | nil => simp [val, digs_zero]
  | cons x l ih =>
    have hx := B32_head hb
    have ih := ih (B32_tail hb) (Nrm_tail hn)
    have hne : val (x :: l) ≠ 0 := by
      intro h0
      simp only [val] at h0
      have hx0 : x = 0 := by omega
      have hl0 : val l = 0 := by omega
      rw [hl0, digs_zero] at ih
      subst ih
      rcases hn with h | h
      · cases h
      · simp [wd] at h; omega
    rw [digs_pos hne]
    simp only [val]
    rw [show (x + 4294967296 * val l) % 4294967296 = x by omega, show (x + 4294967296 * val l) / 4294967296 = val l by omega, ih]
theorem Nrm_digs (n : Nat) : Nrm (digs n) := by
  induction n using Nat.strongRecOn with
  | ind n ih =>
    by_cases h : n = 0
    · subst h; rw [digs_zero]; exact .inl rfl
    · right
      rw [digs_pos h]
      rcases ih (n / 4294967296) (by omega) with h2 | h2
      · rw [h2]
        have : n / 4294967296 = 0 := by have := val_digs (n / 4294967296); rw [h2] at this; simpa [val] using this.symm
        simp [wd]; omega
      · cases hd : digs (n / 4294967296) with
        | nil =>
          have : n / 4294967296 = 0 := by have := val_digs (n / 4294967296); rw [hd] at this; simpa [val] using this.symm
          simp [wd]; omega
        | cons y l => rw [hd] at h2; simpa [wd] using h2
theorem Nrm_trim (l : List Nat) (n : Nat) (hn : n ≤ l.length) : Nrm (l.take (trimN l n)) := by
  induction n with
  | zero => left; simp [trimN]
  | succ n ih =>
    simp only [trimN]
    split
    · exact ih (by omega)
    · rename_i h
      right
      rw [List.length_take, Nat.min_eq_left hn, Nat.add_sub_cancel, wd_take (by omega)]
      exact h
theorem trim_digs {l : List Nat} (hb : B32 l) : l.take (trimN l l.length) = digs (val l) := by
  have h := digs_val (B32_take hb (trimN l l.length)) (Nrm_trim l l.length (Nat.le_refl _))
  rw [val_trimN, List.take_of_length_le (Nat.le_refl _)] at h
  exact h.symm
theorem trim_len {l : List Nat} (hb : B32 l) : trimN l l.length = (digs (val l)).length := by
  rw [← trim_digs hb, List.length_take]; have := trimN_le l l.length; omega
theorem trim_full {l : List Nat} (hb : B32 l) : trimN l l.length = l.length ↔ l = digs (val l) := by
  constructor
  · intro h
    have := trim_digs hb; rw [h, List.take_of_length_le (Nat.le_refl _)] at this; exact this
  · intro h
    rw [trim_len hb, ← h]
theorem digs_len_le {n k : Nat} : (digs n).length ≤ k ↔ n < Wp k := by
  constructor
  · intro h
    have := val_lt (B32_digs n); rw [val_digs] at this
    exact Nat.lt_of_lt_of_le this (Wp_mono h)
  · induction k generalizing n with
    | zero => intro h; rw [Wp_zero] at h; have : n = 0 := by omega
              subst this; simp [digs_zero]
    | succ k ih =>
      intro h
      by_cases h0 : n = 0
      · subst h0; simp [digs_zero]
      · rw [digs_pos h0, List.length_cons]
        have := ih (n := n / 4294967296) (by rw [Wp_succ] at h; exact Nat.div_lt_of_lt_mul h)
        omega
theorem digs_len_lt {n k : Nat} : k < (digs n).length ↔ Wp k ≤ n := by
  have := @digs_len_le n k
  omega
theorem digs_inj {a b : Nat} (h : digs a = digs b) : a = b := by rw [← val_digs a, ← val_digs b, h]
theorem digs_nil {n : Nat} : digs n = [] ↔ n = 0 := by
  constructor
  · intro h; have := val_digs n; rw [h] at this; simpa [val] using this.symm
  · rintro rfl; exact digs_zero
theorem digs_len0 {n : Nat} : (digs n).length = 0 ↔ n = 0 := by rw [List.length_eq_zero_iff, digs_nil]
theorem digs_one {n : Nat} (h0 : n ≠ 0) (h : n < 4294967296) : digs n = [n] := by
  rw [digs_pos h0, Nat.mod_eq_of_lt h, Nat.div_eq_of_lt h, digs_zero]

/-- the order of lists without noughts at the end: by length, then from the last word down -/
def cmpN (x y : Nat) : Int := if x < y then -1 else if x = y then 0 else 1
theorem top_lt {a b : List Nat} (hb : B32 b) {k : Nat} (hk : k < a.length) (hlt : wd a k > wd b k) (hd : a.drop (k + 1) = b.drop (k + 1)) (hbB : k < b.length) (hl : a.length = b.length) : val b < val a := by
  rw [val_split a (k + 1), val_split b (k + 1), hd, hl, val_take_succ hk, val_take_succ hbB]
  have h1 := val_take_lt hb k
  have h2 : (wd b k + 1) * Wp k ≤ wd a k * Wp k := Nat.mul_le_mul_right _ hlt
  rw [Nat.add_mul] at h2
  omega

theorem val_ge {l : List Nat} (h : wd l (l.length - 1) ≠ 0) : Wp (l.length - 1) ≤ val l := by
  have hl : 0 < l.length := by
    rcases Nat.eq_zero_or_pos l.length with h0 | h0
    · exact absurd (wd_out (by omega)) h
    · exact h0
  have h1 := val_take_succ (l := l) (k := l.length - 1) (by omega)
  rw [Nat.sub_add_cancel hl, List.take_length] at h1
  rw [h1]
  have : 1 * Wp (l.length - 1) ≤ wd l (l.length - 1) * Wp (l.length - 1) := Nat.mul_le_mul_right _ (by omega)
  omega
theorem len_lt {a b : List Nat} (ha : B32 a) (hb : Nrm b) (h : a.length < b.length) : val a < val b := by
  rcases hb with rfl | hb
  · simp at h
  · have h1 := val_ge hb
    have h2 := val_lt ha
    have h3 := Wp_mono (show a.length ≤ b.length - 1 by omega)
    omega
theorem drop_wd {l : List Nat} {k : Nat} (h : k < l.length) : l.drop k = wd l k :: l.drop (k + 1) := by
  rw [List.drop_eq_getElem_cons h, wd_get h]
theorem Nrm_of_digs {l : List Nat} (h : l = digs (val l)) : Nrm l := by rw [h]; exact Nrm_digs _
theorem val_inj {a b : List Nat} (ha : a = digs (val a)) (hb : b = digs (val b)) (h : val a = val b) : a = b := by rw [ha, hb, h]
theorem cmpN_self (x : Nat) : cmpN x x = 0 := by simp [cmpN]
theorem cmpN_lt {x y : Nat} (h : x < y) : cmpN x y = -1 := by simp [cmpN, h]
theorem cmpN_gt {x y : Nat} (h : y < x) : cmpN x y = 1 := by simp [cmpN, show ¬ x < y by omega, show ¬ x = y by omega]

theorem bit31 {v : Nat} (h : v < 4294967296) : v.testBit 31 = decide (2147483648 ≤ v) := by
  rw [Nat.testBit_eq_decide_div_mod_eq]
  by_cases h1 : 2147483648 ≤ v
  · rw [decide_eq_true h1, decide_eq_true (by omega)]
  · rw [decide_eq_false h1, decide_eq_false (by omega)]
theorem top_bit {v : Nat} (h : v < 4294967296) : v / 2147483648 = (v.testBit 31).toNat := by
  rw [bit31 h]
  by_cases h1 : 2147483648 ≤ v
  · rw [decide_eq_true h1]; simp; omega
  · rw [decide_eq_false h1]; simp; omega
def sdf32 (x y z : Nat) : Nat := (x + 8589934592 - y - z) % 4294967296
def bor32 (x y z : Nat) : Nat := if x < y + z then 1 else 0
theorem sub_borrow {x y z d : Nat} (hx : x < 4294967296) (hy : y < 4294967296) (hz : z ≤ 1) (hd : d = (x + 8589934592 - y - z) % 4294967296) :
    (((4294967295 ^^^ x) &&& y) ||| ((4294967295 ^^^ (x ^^^ y)) &&& d)) / 2147483648 = bor32 x y z := by
  have hd2 : d < 4294967296 := by omega
  have h1 : (4294967295 ^^^ x) < 2 ^ 32 := Nat.xor_lt_two_pow (by omega) (by omega)
  have h2 : (4294967295 ^^^ (x ^^^ y)) < 2 ^ 32 := Nat.xor_lt_two_pow (by omega) (Nat.xor_lt_two_pow (by omega) (by omega))
  have h3 : ((4294967295 ^^^ x) &&& y) < 2 ^ 32 := Nat.and_lt_two_pow _ (by omega)
  have h4 : ((4294967295 ^^^ (x ^^^ y)) &&& d) < 2 ^ 32 := Nat.and_lt_two_pow _ (by omega)
  have h5 := Nat.or_lt_two_pow h3 h4
  rw [top_bit (by omega)]
  simp only [Nat.testBit_or, Nat.testBit_and, Nat.testBit_xor, bit31 hx, bit31 hy, bit31 hd2, bit31 (show 4294967295 < 4294967296 by omega)]
  unfold bor32
  by_cases c1 : 2147483648 ≤ x <;> by_cases c2 : 2147483648 ≤ y <;> by_cases c3 : 2147483648 ≤ d <;> simp [c1, c2, c3] <;> omega

/-! ### sums -/
def addf (x y z : Nat) : Nat := (x + y + z) % 4294967296
def addc (x y z : Nat) : Nat := (x + y + z) / 4294967296
theorem addf_lt (x y z : Nat) : addf x y z < 4294967296 := Nat.mod_lt _ (by omega)
theorem addc_le {x y z : Nat} (hx : x < 4294967296) (hy : y < 4294967296) (hz : z ≤ 1) : addc x y z ≤ 1 := by unfold addc; omega
theorem add_eq (x y z : Nat) : addf x y z + addc x y z * 4294967296 = x + y + z := by unfold addf addc; omega
theorem plus_step {a b o : List Nat} {k q : Nat} (ho : k < o.length) (h : val (o.take k) + q * Wp k = val (a.take k) + val (b.take k)) :
    val ((o.set k (addf (wd a k) (wd b k) q)).take (k + 1)) + addc (wd a k) (wd b k) q * Wp (k + 1) = val (a.take (k + 1)) + val (b.take (k + 1)) := by
  rw [val_take_set ho, val_take_succ' a, val_take_succ' b, Wp_succ]
  have e := add_eq (wd a k) (wd b k) q
  generalize addf (wd a k) (wd b k) q = f at *
  generalize addc (wd a k) (wd b k) q = c at *
  have e2 : (f + c * 4294967296) * Wp k = (wd a k + wd b k + q) * Wp k := by rw [e]
  rw [Nat.add_mul, Nat.add_mul, Nat.add_mul] at e2
  have e3 : c * (4294967296 * Wp k) = c * 4294967296 * Wp k := by rw [Nat.mul_assoc]
  omega
theorem plus_end {a b o : List Nat} {n q : Nat} (ho : o.length = n + 1) (ha : a.length ≤ n) (hb : b.length ≤ n) (h : val (o.take n) + q * Wp n = val (a.take n) + val (b.take n)) :
    val (o.set n q) = val a + val b := by
  have h1 := val_take_set (l := o) (k := n) (x := q) (by omega)
  rw [val_take_all (by rw [List.length_set]; omega)] at h1
  rw [h1, h, val_take_all ha, val_take_all hb]

/-! ### differences -/
theorem sub_eq {x y z : Nat} (hx : x < 4294967296) (hy : y < 4294967296) (hz : z ≤ 1) : sdf32 x y z + y + z = x + bor32 x y z * 4294967296 := by
  unfold sdf32 bor32; split <;> omega
theorem sdf_lt (x y z : Nat) : sdf32 x y z < 4294967296 := by unfold sdf32; omega
theorem bor_le (x y z : Nat) : bor32 x y z ≤ 1 := by unfold bor32; split <;> omega
theorem less_step {a b o : List Nat} {k q : Nat} (ha : B32 a) (hb : B32 b) (hq : q ≤ 1) (ho : k < o.length) (h : val (o.take k) + val (b.take k) = val (a.take k) + q * Wp k) :
    val ((o.set k (sdf32 (wd a k) (wd b k) q)).take (k + 1)) + val (b.take (k + 1)) = val (a.take (k + 1)) + bor32 (wd a k) (wd b k) q * Wp (k + 1) := by
  rw [val_take_set ho, val_take_succ' a, val_take_succ' b, Wp_succ]
  have e := sub_eq (wd_lt ha k) (wd_lt hb k) hq
  generalize sdf32 (wd a k) (wd b k) q = f at *
  generalize bor32 (wd a k) (wd b k) q = c at *
  have e2 : (f + wd b k + q) * Wp k = (wd a k + c * 4294967296) * Wp k := by rw [e]
  rw [Nat.add_mul, Nat.add_mul, Nat.add_mul] at e2
  have e3 : c * (4294967296 * Wp k) = c * 4294967296 * Wp k := by rw [Nat.mul_assoc]
  omega
theorem less_end {a b o : List Nat} {q : Nat} (ho : o.length = a.length) (hoB : B32 o) (hb : b.length ≤ a.length) (hle : val b ≤ val a)
    (h : val (o.take a.length) + val (b.take a.length) = val (a.take a.length) + q * Wp a.length) : val o = val a - val b := by
  rw [val_take_all (by omega), val_take_all hb, val_take_all (Nat.le_refl _)] at h
  have h1 := val_lt hoB
  rw [ho] at h1
  have : q = 0 := by
    rcases Nat.eq_zero_or_pos q with h0 | h0
    · exact h0
    · have : 1 * Wp a.length ≤ q * Wp a.length := Nat.mul_le_mul_right _ h0
      omega
  subst this
  omega

/-! ### products -/
theorem val_set {o : List Nat} {k : Nat} (x : Nat) (h : k < o.length) : val (o.set k x) + wd o k * Wp k = val o + x * Wp k := by
  have h1 := val_split (o.set k x) (k + 1)
  have h2 := val_split o (k + 1)
  rw [val_take_set h, List.length_set, List.drop_set_of_lt (by omega)] at h1
  rw [val_take_succ h] at h2
  omega
theorem mul_le64 {x y : Nat} (hx : x < 4294967296) (hy : y < 4294967296) : x * y ≤ 18446744065119617025 := Nat.mul_le_mul (show x ≤ 4294967295 by omega) (show y ≤ 4294967295 by omega)
theorem times_step {b o o' : List Nat} {i j c v : Nat} (hk : i + j < o'.length) (x : Nat) (hv : v = c + (x * wd b j + wd o' (i + j))) (h : val o' + c * Wp (i + j) = val o + x * Wp i * val (b.take j)) :
    val (o'.set (i + j) (v % 4294967296)) + v / 4294967296 * Wp (i + j + 1) = val o + x * Wp i * val (b.take (j + 1)) := by
  have h1 := val_set (v % 4294967296) hk
  have e : v % 4294967296 + v / 4294967296 * 4294967296 = v := by omega
  generalize v % 4294967296 = f at *
  generalize v / 4294967296 = g at *
  rw [val_take_succ' b, Wp_succ, Nat.mul_add, ← Nat.add_assoc, ← h]
  have e2 : (f + g * 4294967296) * Wp (i + j) = (c + (x * wd b j + wd o' (i + j))) * Wp (i + j) := by rw [e, hv]
  rw [Nat.add_mul, Nat.add_mul, Nat.add_mul] at e2
  have e3 : g * (4294967296 * Wp (i + j)) = g * 4294967296 * Wp (i + j) := by rw [Nat.mul_assoc]
  have e4 : x * Wp i * (wd b j * Wp j) = x * wd b j * Wp (i + j) := by
    rw [Wp_add, Nat.mul_assoc, Nat.mul_assoc]
    congr 1
    rw [← Nat.mul_assoc, ← Nat.mul_assoc, Nat.mul_comm (Wp i)]
  omega
def tf (c x y o : Nat) : Nat := (c + (x * y + o)) % 4294967296
def tc (c x y o : Nat) : Nat := (c + (x * y + o)) / 4294967296
theorem mulI {x y : Nat} (hx : x < 4294967296) (hy : y < 4294967296) : 0 ≤ (x : Int) * (y : Int) ∧ (x : Int) * (y : Int) ≤ 18446744065119617025 := by
  have h := mul_le64 hx hy
  rw [← Int.natCast_mul]
  generalize x * y = p at *
  omega
theorem tf_int (c x y o : Nat) : ((c : Int) + ((x : Int) * (y : Int) + (o : Int))) % 4294967296 = (tf c x y o : Int) := by
  unfold tf; rw [← Int.natCast_mul]
  generalize x * y = p at *
  omega
theorem tc_int (c x y o : Nat) : ((c : Int) + ((x : Int) * (y : Int) + (o : Int))) / 4294967296 = (tc c x y o : Int) := by
  unfold tc; rw [← Int.natCast_mul]
  generalize x * y = p at *
  omega
theorem tf_lt (c x y o : Nat) : tf c x y o < 4294967296 := Nat.mod_lt _ (by omega)
theorem tc_lt {c x y o : Nat} (hc : c < 4294967296) (hx : x < 4294967296) (hy : y < 4294967296) (ho : o < 4294967296) : tc c x y o < 4294967296 := by
  have := mul_le64 hx hy; unfold tc; omega
theorem times_end {a b o o' : List Nat} {i c : Nat} (hk : i + b.length < o'.length) (hz : wd o' (i + b.length) = 0) (h : val o' + c * Wp (i + b.length) = val o + wd a i * Wp i * val (b.take b.length)) (h0 : val o = val (a.take i) * val b) :
    val (o'.set (i + b.length) c) = val (a.take (i + 1)) * val b := by
  have h1 := val_set c hk
  rw [hz, Nat.zero_mul, Nat.add_zero, h, List.take_length, h0, ← Nat.add_mul] at h1
  rw [h1, val_take_succ']

def uf (o x y c : Nat) : Nat := (o + x * y + c) % 4294967296
def uc (o x y c : Nat) : Nat := (o + x * y + c) / 4294967296
theorem uf_eq (o x y c : Nat) : uf o x y c = (c + (x * y + o)) % 4294967296 := by unfold uf; congr 1; omega
theorem uc_eq (o x y c : Nat) : uc o x y c = (c + (x * y + o)) / 4294967296 := by unfold uc; congr 1; omega
theorem uf_int (c x y o : Nat) : ((o : Int) + (x : Int) * (y : Int) + (c : Int)) % 4294967296 = (uf o x y c : Int) := by
  unfold uf; rw [← Int.natCast_mul]
  generalize x * y = p at *
  omega
theorem uc_int (c x y o : Nat) : ((o : Int) + (x : Int) * (y : Int) + (c : Int)) / 4294967296 = (uc o x y c : Int) := by
  unfold uc; rw [← Int.natCast_mul]
  generalize x * y = p at *
  omega
theorem uf_lt (c x y o : Nat) : uf c x y o < 4294967296 := Nat.mod_lt _ (by omega)
theorem uc_lt {c x y o : Nat} (hc : c < 4294967296) (hx : x < 4294967296) (hy : y < 4294967296) (ho : o < 4294967296) : uc o x y c < 4294967296 := by
  rw [uc_eq]; exact tc_lt hc hx hy ho
theorem rtimes_step {b o o' : List Nat} {i j c : Nat} (hk : i + j < o'.length) (x : Nat) (h : val o' + c * Wp (i + j) = val o + x * Wp i * val (b.take j)) :
    val (o'.set (i + j) (uf (wd o' (i + j)) x (wd b j) c)) + uc (wd o' (i + j)) x (wd b j) c * Wp (i + (j + 1)) = val o + x * Wp i * val (b.take (j + 1)) := by
  rw [uf_eq, uc_eq]
  exact times_step hk x rfl h
theorem rtimes_end {a b o o' : List Nat} {i : Nat} (h : val o' + 0 * Wp (i + (b.length + 1)) = val o + wd a i * Wp i * val (b.take (b.length + 1))) (h0 : val o = val (a.take i) * val b) :
    val o' = val (a.take (i + 1)) * val b := by
  rw [val_take_all (by omega)] at h
  rw [val_take_succ', Nat.add_mul, ← h0]; omega
theorem uc_zero {x c : Nat} (hc : c < 4294967296) : uc 0 x 0 c = 0 := by unfold uc; simp; omega

/-! ### bits -/
/-- how many bits a number has -/
def blen (n : Nat) : Nat := if h : n = 0 then 0 else blen (n / 2) + 1
termination_by n
decreasing_by omega
theorem blen_zero : blen 0 = 0 := by rw [blen]; simp
theorem blen_pos {n : Nat} (h : n ≠ 0) : blen n = blen (n / 2) + 1 := by rw [blen]; simp [h]
theorem blen_div {n : Nat} (k : Nat) (h : 2 ^ k ≤ n) : blen n = blen (n / 2 ^ k) + k := by
  induction k with
  | zero => simp
  | succ k ih =>
    have h1 : 2 ^ k ≤ n := Nat.le_trans (Nat.pow_le_pow_right (by omega) (by omega)) h
    rw [ih h1]
    have h2 : 2 ≤ n / 2 ^ k := by
      rw [Nat.le_div_iff_mul_le (Nat.pow_pos (by omega))]
      rw [Nat.pow_succ] at h; omega
    have e : n / 2 ^ k / 2 = n / 2 ^ (k + 1) := by rw [Nat.div_div_eq_div_mul, ← Nat.pow_succ]
    rw [blen_pos (by omega), e, Nat.add_assoc, Nat.add_comm 1 k]
theorem blen_lt (n : Nat) : n < 2 ^ blen n := by
  induction n using Nat.strongRecOn with
  | ind n ih =>
    by_cases h : n = 0
    · subst h; simp [blen_zero]
    · rw [blen_pos h, Nat.pow_succ]
      have := ih (n / 2) (by omega)
      omega
theorem blen_ge {n : Nat} (h : n ≠ 0) : 2 ^ (blen n - 1) ≤ n := by
  induction n using Nat.strongRecOn with
  | ind n ih =>
    rw [blen_pos h, Nat.add_sub_cancel]
    by_cases h1 : n / 2 = 0
    · rw [h1, blen_zero]; omega
    · have h2 := ih (n / 2) (by omega) h1
      have h3 : blen (n / 2) = (blen (n / 2) - 1) + 1 := by rw [blen_pos h1]; omega
      rw [h3, Nat.pow_succ]; omega
theorem blen_le {n k : Nat} : blen n ≤ k ↔ n < 2 ^ k := by
  constructor
  · intro h
    exact Nat.lt_of_lt_of_le (blen_lt n) (Nat.pow_le_pow_right (by omega) h)
  · intro h
    rcases Nat.lt_or_ge k (blen n) with h1 | h1
    · have hn : n ≠ 0 := by intro h0; subst h0; rw [blen_zero] at h1; omega
      have h2 := blen_ge hn
      have h3 := Nat.pow_le_pow_right (n := 2) (by omega) (show k ≤ blen n - 1 by omega)
      omega
    · exact h1
theorem wd_val {l : List Nat} (h : B32 l) (i : Nat) : wd l i = val l / Wp i % 4294967296 := by
  have h1 := val_split l (i + 1)
  rw [val_take_succ'] at h1
  have h2 := val_take_lt h i
  have h3 := wd_lt h i
  have hp := Wp_pos i
  by_cases hi : i < l.length
  · rw [Nat.min_eq_left (by omega), Wp_succ] at h1
    have e : val l = val (l.take i) + Wp i * (wd l i + 4294967296 * val (l.drop (i + 1))) := by
      rw [h1, Nat.mul_add, Nat.mul_comm (Wp i) (wd l i), ← Nat.mul_assoc, Nat.mul_comm (Wp i) 4294967296, Nat.add_assoc]
    rw [e, Nat.add_mul_div_left _ _ hp, Nat.div_eq_of_lt h2]
    omega
  · rw [wd_out (by omega)]
    have := val_lt h
    rw [Nat.div_eq_of_lt (Nat.lt_of_lt_of_le this (Wp_mono (by omega)))]
/-- the bit k of a number -/
def bitN (n k : Nat) : Nat := n / 2 ^ k % 2
theorem bitN_lt (n k : Nat) : bitN n k < 2 := Nat.mod_lt _ (by omega)
theorem bit_wd {l : List Nat} (h : B32 l) (k : Nat) : wd l (k / 32) / 2 ^ (k % 32) % 2 = bitN (val l) k := by
  rw [wd_val h, Wp_eq]
  unfold bitN
  generalize val l = n
  have hk : k = 32 * (k / 32) + k % 32 := by omega
  have hs : k % 32 < 32 := Nat.mod_lt _ (by omega)
  generalize k / 32 = i at *
  generalize k % 32 = s at *
  subst hk
  rw [Nat.pow_add, ← Nat.div_div_eq_div_mul]
  generalize n / 2 ^ (32 * i) = m
  have e : 4294967296 = 2 ^ s * 2 ^ (32 - s) := by rw [← Nat.pow_add]; rw [show s + (32 - s) = 32 by omega]
  rw [e, Nat.mod_mul_right_div_self]
  rw [show 32 - s = (31 - s) + 1 by omega, Nat.pow_succ, Nat.mul_comm]
  rw [Nat.mod_mul_right_mod]
theorem bitN_top {n k : Nat} (h : n < 2 ^ (k + 1)) : bitN n k = if 2 ^ k ≤ n then 1 else 0 := by
  unfold bitN
  rw [Nat.pow_succ] at h
  split
  · rename_i h1
    have : n / 2 ^ k = 1 := by
      apply Nat.div_eq_of_lt_le <;> omega
    rw [this]
  · rename_i h1
    rw [Nat.div_eq_of_lt (by omega)]
end Go.Proofs.YtbgggepdlkbpoaaGreatDoor
namespace Go.Proofs.YtbgggepdlkbpoaaGreatDoor
open Go.RowKit

/-- a slice (its address, its capacity) reads as the list l, and lies below block B; f: an element's cell -/
def RL {α : Type} (f : α → Value) (w : World) (B : Nat) (A : Option Addr) (c : Nat) (l : List α) : Prop :=
  l.length ≤ c ∧ l.length ≤ 35184372088832 ∧
  (0 < l.length → ∃ b off, A = some ⟨b, off, none⟩ ∧ b < B ∧ ∀ k x, l[k]? = some x → w.cell? ⟨b, off + k, none⟩ = some (f x))

/-- a slice of the call's own (blocks from base on) that holds the list l; e: the element's type -/
def OL (e : TypeId) {α : Type} (f : α → Value) (w : World) (base : Nat) (A : Option Addr) (c : Nat) (l : List α) : Prop :=
  w.ownsRow base e 1 (.slice A l.length c) l.length (l.map f) ∧ l.length ≤ 35184372088832

section
variable {α : Type} {f : α → Value} {e : TypeId} {w w' : World} {B B' base : Nat} {A : Option Addr} {c : Nat} {l : List α}
theorem RL.lc (h : RL f w B A c l) : l.length ≤ c := h.1
theorem RL.big (h : RL f w B A c l) : l.length ≤ 35184372088832 := h.2.1
theorem RL.nil (f : α → Value) (w : World) (B : Nat) (A : Option Addr) (c : Nat) : RL f w B A c [] := ⟨by simp, by simp, fun h => by simp at h⟩
theorem RL.below (h : RL f w B A c l) (hb : Below B w w') : RL f w' B A c l :=
  ⟨h.1, h.2.1, fun hn => by
    obtain ⟨b, off, e, hlt, hc⟩ := h.2.2 hn
    exact ⟨b, off, e, hlt, fun k x hk => (hb.cell (p := ⟨b, off + k, none⟩) hlt).trans (hc k x hk)⟩⟩
theorem RL.more (h : RL f w B A c l) (hB : B ≤ B') : RL f w B' A c l :=
  ⟨h.1, h.2.1, fun hn => by
    obtain ⟨b, off, e, hlt, hc⟩ := h.2.2 hn
    exact ⟨b, off, e, by omega, hc⟩⟩
theorem RL.step (h : RL f w B A c l) (hb : Below B w w') (hB : B ≤ B') : RL f w' B' A c l := (h.below hb).more hB
theorem RL.drewN (h : RL f w B A c l) (k : Nat) : RL f (w.drewN k) B A c l := h
theorem RL.take (h : RL f w B A c l) (k : Nat) : RL f w B A c (l.take k) := by
  refine ⟨by have := h.1; rw [List.length_take]; omega, by have := h.2.1; rw [List.length_take]; omega, fun hn => ?_⟩
  rw [List.length_take] at hn
  obtain ⟨b, off, e, hlt, hc⟩ := h.2.2 (by omega)
  refine ⟨b, off, e, hlt, fun j x hj => ?_⟩
  rw [List.getElem?_take] at hj
  split at hj
  · exact hc j x hj
  · cases hj
theorem RL.at_ (h : RL f w B A c l) (hn : 0 < l.length) : ∃ b off, A = some ⟨b, off, none⟩ ∧ b < B ∧ ∀ k x, l[k]? = some x → w.cell? ⟨b, off + k, none⟩ = some (f x) := h.2.2 hn

theorem OL.big (h : OL e f w base A c l) : l.length ≤ 35184372088832 := h.2
theorem OL.nil (e : TypeId) (f : α → Value) (w : World) (base : Nat) : OL e f w base none 0 ([] : List α) := ⟨by simpa using World.ownsRow_nil w base e 1, by simp⟩
theorem OL.form (h : OL e f w base A c l) : (A = none ∧ c = 0 ∧ l = []) ∨ ∃ g, A = some ⟨g, 0, none⟩ ∧ base ≤ g ∧ g < w.heap.size ∧ l.length ≤ c := by
  rcases h.1.2 with ⟨e, h0⟩ | ⟨g, cap, cur, e, hb, hh, hn, _⟩
  · simp only [Value.slice.injEq] at e
    exact .inl ⟨e.1, e.2.2, List.eq_nil_of_length_eq_zero h0⟩
  · simp only [Value.slice.injEq] at e
    obtain ⟨e1, e2, e3⟩ := e
    subst e3
    exact .inr ⟨g, e1, hb, (Array.getElem?_eq_some_iff.1 hh).1, hn⟩
theorem OL.lc (h : OL e f w base A c l) : l.length ≤ c := by
  rcases h.form with ⟨_, _, rfl⟩ | ⟨g, _, _, _, h⟩
  · simp
  · exact h
theorem OL.cell {g : Nat} (h : OL e f w base (some ⟨g, 0, none⟩) c l) {k : Nat} {x : α} (hk : l[k]? = some x) : w.cell? ⟨g, k, none⟩ = some (f x) := by
  have hlt : k < l.length := (List.getElem?_eq_some_iff.1 hk).1
  rw [h.1.cellAt k (by omega), List.getElem?_map, hk]; rfl
theorem OL.rl (h : OL e f w base A c l) : RL f w w.heap.size A c l := by
  refine ⟨h.lc, h.big, fun hn => ?_⟩
  rcases h.form with ⟨_, _, rfl⟩ | ⟨g, rfl, hb, hlt, _⟩
  · simp at hn
  · refine ⟨g, 0, rfl, hlt, fun k x hk => ?_⟩
    rw [Nat.zero_add]
    exact h.cell hk
theorem OL.base_le (h : OL e f w base A c l) (hb : B ≤ base) : OL e f w B A c l := by
  refine ⟨⟨h.1.1, ?_⟩, h.2⟩
  rcases h.1.2 with h2 | ⟨g, cap, cur, a, b, r⟩
  · exact .inl h2
  · exact .inr ⟨g, cap, cur, a, by omega, r⟩
theorem OL.kept (h : OL e f w base A c l) (hk : ∀ g, A = some ⟨g, 0, none⟩ → w'.heap[g]? = w.heap[g]?) : OL e f w' base A c l := by
  refine ⟨⟨h.1.1, ?_⟩, h.2⟩
  rcases h.1.2 with h2 | ⟨g, cap, cur, a, b, hh, r⟩
  · exact .inl h2
  · have ha : A = some ⟨g, 0, none⟩ := by simp only [Value.slice.injEq] at a; exact a.1
    exact .inr ⟨g, cap, cur, a, b, by rw [hk g ha]; exact hh, r⟩
theorem OL.lt {g : Nat} (h : OL e f w base (some ⟨g, 0, none⟩) c l) : base ≤ g ∧ g < w.heap.size := by
  rcases h.form with ⟨e, _⟩ | ⟨g', e, h1, h2, _⟩
  · cases e
  · simp only [Option.some.injEq, Addr.mk.injEq, and_true] at e
    subst e
    exact ⟨h1, h2⟩
theorem OL.below (h : OL e f w base A c l) (hb : Below B w w') (hB : w.heap.size ≤ B) : OL e f w' base A c l :=
  h.kept fun g hg => hb.block g (by subst hg; have := h.lt; omega)
theorem OL.grown {row : Option Nat} (h : OL e f w base A c l) (hg : w.grownBy w' row) (hne : ∀ g, A = some ⟨g, 0, none⟩ → row ≠ some g) : OL e f w' base A c l :=
  h.kept fun g ha => hg.block g (by subst ha; exact h.lt.2) (fun he => hne g ha he.symm)
theorem OL.alloc (h : OL e f w base A c l) (o : Obj) : OL e f (w.alloc o) base A c l := ⟨h.1.alloc o, h.2⟩
theorem OL.drew (h : OL e f w base A c l) : OL e f w.drew base A c l := h
theorem OL.drewN (h : OL e f w base A c l) (k : Nat) : OL e f (w.drewN k) base A c l := h
theorem OL.take (h : OL e f w base A c l) (k : Nat) : OL e f w base A c (l.take k) := by
  have hl : (l.take k).length = min k l.length := List.length_take
  refine ⟨⟨by rw [List.length_map]; omega, ?_⟩, by have := h.big; omega⟩
  rcases h.1.2 with ⟨e, h0⟩ | ⟨g, cap, cur, a, b, hh, hn, hcm, hcs, ht⟩
  · simp only [Value.slice.injEq] at e
    left
    refine ⟨?_, by omega⟩
    rw [e.1, e.2.2]; congr 1; omega
  · simp only [Value.slice.injEq] at a
    refine .inr ⟨g, cap, cur, by rw [a.1, a.2.2], b, hh, by omega, hcm, hcs, ?_⟩
    rw [List.map_take, ← ht, List.take_take]
    congr 1
    omega
theorem OL.frozen {g : Nat} (h : OL e f w base (some ⟨g, 0, none⟩) c l) (k : Nat) : w.frozen? ⟨g, k, none⟩ = false := h.1.frozenAt k
theorem OL.set {g : Nat} (h : OL e f w base (some ⟨g, 0, none⟩) c l) (k : Nat) (x : α) :
    OL e f (w.setCell ⟨g, k, none⟩ (f x)) base (some ⟨g, 0, none⟩) c (l.set k x) := by
  have h1 := (h.1.stored k (f x)).1
  refine ⟨?_, by rw [List.length_set]; exact h.big⟩
  rw [List.map_set, List.length_set]
  exact h1
theorem OL.far (h : OL e f w base A c l) {p : Addr} (hp : ∀ g, A = some ⟨g, 0, none⟩ → g ≠ p.block) (u : Value) : OL e f (w.setCell p u) base A c l :=
  h.kept fun g hg => Below.heap_setCell _ _ _ _ (hp g hg)
end

theorem bdN {B : Nat} {a w : World} (h : Below B a w) (n : Nat) : Below B a (w.drewN n) := h.trans ⟨rfl, rfl, rfl, Nat.le_refl _, fun _ _ => rfl⟩
theorem quiet_left {P : Program} {f : FuncId} {args : Array Value} {w : World} {n : Nat} {v : Value}
    (h : Calls P f args (w.drewN n) fun e w' => e = .returned v ∧ w.drewN n = w') : Calls P f args (w.drewN n) fun e w'' => e = .returned v ∧ ∃ m, w'' = w.drewN m :=
  h.mono fun _ _ ⟨he, hm⟩ => ⟨he, n, hm.symm⟩
theorem quiet_some {P : Program} {f : FuncId} {args : Array Value} {w : World} {n : Nat} {v : Value}
    (h : Calls P f args (w.drewN n) fun e w' => e = .returned v ∧ ∃ m, w' = (w.drewN n).drewN m) : Calls P f args (w.drewN n) fun e w'' => e = .returned v ∧ ∃ m, w'' = w.drewN m :=
  h.mono fun _ _ ⟨he, m, hm⟩ => ⟨he, n + m, by rw [hm, World.drewN_drewN]⟩

/-- make([]T, n), an element's cells one -/
theorem wp_make {P : Program} (w : World) {ops : Array Oper} {rest : List Oper} {o : Oper} {a : Act} {Q : Exit → Act → World → Prop}
    (T e : TypeId) {α : Type} (f : α → Value) (x0 : α) (by_ : Nat) (hu : P.underlying T = some (.slice e)) (hi : (P.info? e).map (fun i => (i.zero, i.size, i.bytes)) = some (some (f x0), 1, by_)) (h1 : (f x0).cells = #[f x0])
    (hg : o.guard = none) (x c : Operand) (hop : o.op = Op.makeSlice T x c)
    (kl kc : IntKind) (L C : Int) (n : Nat) (hl : a.eval x = .int kl L) (hc : a.eval c = .int kc C) (hL : L = (n : Int)) (hC : C = (n : Int)) (hn : n ≤ 35184372088832) (hby : by_ * n ≤ 281474976710656)
    (hK : ∀ w', OL e f w' w.heap.size (some ⟨w.heap.size, 0, none⟩) n (List.replicate n x0) → w.grownBy w' none → w.heap.size + 1 ≤ w'.heap.size → wpList P ops Q rest (a.put o.dst (.slice (some ⟨w.heap.size, 0, none⟩) n n)) w') :
    wpList P ops Q (o :: rest) a w := by
  obtain ⟨i, hi, h0, hi1, h2⟩ := info_parts hi
  refine wpList_make_full w hg x c T hop w.heap.size e i (f x0) 1 hu hi h0 hi1 kl kc L C n hl hc hL hC (by rw [h2]; exact hby) (by unfold maxLen; omega) (Nat.le_refl _) ?_
  intro w' hown hgr
  have e2 : (madeCells (f x0).cells (n * 1)).toList = (List.replicate n x0).map f := by
    rw [h1, Nat.mul_one]
    simp only [madeCells]
    apply List.ext_getElem
    · simp
    · intro k hk1 hk2
      simp [Nat.mod_one]
  rw [e2] at hown
  have hO : OL e f w' w.heap.size (some ⟨w.heap.size, 0, none⟩) n (List.replicate n x0) := ⟨by simpa using hown, by simpa using hn⟩
  exact hK w' hO hgr hO.lt.2

theorem run_append_nil' {P : Program} (w : World) {base : Nat} {T ty e : TypeId} {i : TypeInfo} (ht : P.underlying T = some (.slice e)) (hi : P.info? e = some i)
    {v : Value} {n : Nat} {xs : List Value} (hown : w.ownsRow base e 1 v n xs) (ad : Option Addr) (d : Nat) : (Builtin.append_ #[T, T] ty #[v, .slice ad 0 d]).run P w = .ok v w := by
  cases ad with
  | none =>
    rcases hown.2 with ⟨rfl, rfl⟩ | ⟨g, cap, cur, rfl, _, _, hnc, _⟩
    · simp [Builtin.append_, run_underlying ht, sizeOf, typeInfo, hi, Builtin.lenOf, Builtin.firstCells]
    · simp [Builtin.append_, run_underlying ht, sizeOf, typeInfo, hi, Builtin.lenOf, Builtin.firstCells, hnc, storeCells]
  | some ad =>
    rcases hown.2 with ⟨rfl, rfl⟩ | ⟨g, cap, cur, rfl, _, _, hnc, _⟩
    · simp [Builtin.append_, run_underlying ht, sizeOf, typeInfo, hi, Builtin.lenOf, Builtin.firstCells, loadCells, loadCellsFrom]
    · simp [Builtin.append_, run_underlying ht, sizeOf, typeInfo, hi, Builtin.lenOf, Builtin.firstCells, hnc, storeCells, loadCells, loadCellsFrom]

/-- append(v, r...): behind a row of the call's own (nil too) -/
theorem wp_app {P : Program} (w : World) {ops : Array Oper} {rest : List Oper} {o : Oper} {a : Act} {Q : Exit → Act → World → Prop}
    (T e : TypeId) {α : Type} (f : α → Value) (x0 : α) (by_ : Nat) (hu : P.underlying T = some (.slice e)) (hi : (P.info? e).map (fun i => (i.zero, i.size, i.bytes)) = some (some (f x0), 1, by_)) (h1 : ∀ x, (f x).cells = #[f x] ∧ (f x).oneCell' = true)
    (hg : o.guard = none) (s x : Operand) (hop : o.op = Op.call { callee := Callee.builtin Builtin.append, args := #[s, x], argTypes := #[T, T] })
    (base : Nat) (A : Option Addr) (c n : Nat) (l : List α) (hs : a.eval s = .slice A n c) (hn : n = l.length) (hown : OL e f w base A c l)
    (D : Option Addr) (d m : Nat) (r : List α) (hx : a.eval x = .slice D m d) (hm : m = r.length) (Br : Nat) (hr : RL f w Br D d r)
    (hlen : l.length + r.length ≤ 35184372088832) (hby : (l.length + r.length) * by_ ≤ 140737488355328) (hbase : base ≤ w.heap.size)
    (hK : ∀ A' c' w', OL e f w' base A' c' (l ++ r) → w.grownBy w' (Value.slice A n c).ownBlock → (∀ g, A' = some ⟨g, 0, none⟩ → g < w.heap.size → A = some ⟨g, 0, none⟩) →
      wpList P ops Q rest (a.put o.dst (.slice A' (l ++ r).length c')) w') :
    wpList P ops Q (o :: rest) a w := by
  obtain ⟨i, hi, h0, hi1, h2⟩ := info_parts hi
  subst hn hm
  refine wpList_plain hg fun K hK' => ?_
  have key : ∃ v' w', (Builtin.append_ #[T, T] o.type #[.slice A l.length c, .slice D r.length d]).run P w = .ok v' w' ∧ w'.ownsRow base e 1 v' (l.length + r.length) (l.map f ++ r.map f) ∧ w.grownBy w' (Value.slice A l.length c).ownBlock ∧ (v'.ownBlock = (Value.slice A l.length c).ownBlock ∨ v'.ownBlock = some w.heap.size) := by
    by_cases hr0 : r.length = 0
    · have hrn : r = [] := List.eq_nil_of_length_eq_zero hr0
      subst hrn
      exact ⟨_, w, run_append_nil' w hu hi hown.1 D d, by simpa using hown.1, World.grownBy.refl w _, .inl rfl⟩
    · obtain ⟨b, off, rfl, _, hc⟩ := hr.2.2 (by omega)
      obtain ⟨v', w', hrun, q1, q2, _, q4⟩ := run_append_own_at (P := P) w base T o.type e i (f x0) 1 by_ hu hi h0 hi1 h2 (by rw [(h1 x0).1]; rfl) (by omega) (.slice A l.length c) l.length (l.map f) hown.1 ⟨b, off, none⟩ r.length d (r.map f) (by simp)
        (by
          intro j u hj
          rw [List.getElem?_map] at hj
          obtain ⟨y, hy, rfl⟩ := Option.map_eq_some_iff.1 hj
          rw [Addr.add_lit]
          exact hc j y hy)
        (by
          intro u hu
          obtain ⟨y, _, rfl⟩ := List.mem_map.1 hu
          exact (h1 y).2)
        (by unfold maxLen; omega) hby hbase
      exact ⟨v', w', hrun, q1, q2, q4⟩
  obtain ⟨v', w', hrun, q1, q2, q4⟩ := key
  unfold Oper.wp execOp
  simp only [hop, resolve, invoke, builtin, Sem.run_bind, Sem.run_pure, Result.andThen_ok, List.map_toArray, List.map_cons, List.map_nil, hs, hx, hrun]
  have hlen2 : (l ++ r).length = l.length + r.length := List.length_append
  rcases q1.2 with ⟨rfl, hz⟩ | ⟨g, cap, cur, rfl, a1, a2, a3, a4, a5, a6⟩
  · have hO : OL e f w' base none 0 (l ++ r) := ⟨by rw [hlen2, List.map_append, hz]; rw [hz] at q1; exact q1, by omega⟩
    have := hK none 0 w' hO q2 (by intro g hg; cases hg)
    rw [hlen2, hz] at this
    exact hK' _ _ this
  · have hO : OL e f w' base (some ⟨g, 0, none⟩) cap (l ++ r) := ⟨by rw [hlen2, List.map_append]; exact q1, by omega⟩
    have := hK (some ⟨g, 0, none⟩) cap w' hO q2 (by
      intro g' hg' hlt
      simp only [Option.some.injEq, Addr.mk.injEq, and_true] at hg'
      subst hg'
      rcases q4 with q | q
      · rcases hown.form with ⟨rfl, _⟩ | ⟨g2, rfl, _⟩
        · simp [Value.ownBlock] at q
        · simp [Value.ownBlock] at q; subst q; rfl
      · simp [Value.ownBlock] at q; omega)
    rw [hlen2] at this
    exact hK' _ _ this
end Go.Proofs.YtbgggepdlkbpoaaGreatDoor
namespace Go.Proofs.YtbgggepdlkbpoaaGreatDoor
open Go.RowKit

/-- a word's cell -/
def fw (x : Nat) : Value := .int .u32 (x : Int)
def RW (w : World) (B : Nat) (A : Option Addr) (c : Nat) (l : List Nat) : Prop := RL fw w B A c l ∧ B32 l
def OW (w : World) (base : Nat) (A : Option Addr) (c : Nat) (l : List Nat) : Prop := OL 55 fw w base A c l ∧ B32 l

theorem infoW : (Tryz.prog.info? 55).map (fun i => (i.zero, i.size, i.bytes)) = some (some (fw 0), 1, 4) := by kernel_rfl

section
variable {w w' : World} {B B' base : Nat} {A : Option Addr} {c : Nat} {l : List Nat}
theorem RW.lc (h : RW w B A c l) : l.length ≤ c := h.1.lc
theorem RW.big (h : RW w B A c l) : l.length ≤ 35184372088832 := h.1.big
theorem RW.b32 (h : RW w B A c l) : B32 l := h.2
theorem RW.nil (w : World) (B : Nat) (A : Option Addr) (c : Nat) : RW w B A c [] := ⟨RL.nil .., B32_nil⟩
theorem RW.below (h : RW w B A c l) (hb : Below B w w') : RW w' B A c l := ⟨h.1.below hb, h.2⟩
theorem RW.more (h : RW w B A c l) (hB : B ≤ B') : RW w B' A c l := ⟨h.1.more hB, h.2⟩
theorem RW.step (h : RW w B A c l) (hb : Below B w w') (hB : B ≤ B') : RW w' B' A c l := ⟨h.1.step hb hB, h.2⟩
theorem RW.drewN (h : RW w B A c l) (k : Nat) : RW (w.drewN k) B A c l := h
theorem RW.take (h : RW w B A c l) (k : Nat) : RW w B A c (l.take k) := ⟨h.1.take k, B32_take h.2 k⟩
theorem RW.at_ (h : RW w B A c l) (hn : 0 < l.length) : ∃ b off, A = some ⟨b, off, none⟩ ∧ b < B ∧ ∀ k, k < l.length → w.cell? ⟨b, off + k, none⟩ = some (.int .u32 (wd l k)) := by
  obtain ⟨b, off, e, hb, hc⟩ := h.1.at_ hn
  exact ⟨b, off, e, hb, fun k hk => hc k _ (wd_get? hk)⟩
theorem OW.b32 (h : OW w base A c l) : B32 l := h.2
theorem OW.big (h : OW w base A c l) : l.length ≤ 35184372088832 := h.1.big
theorem OW.lc (h : OW w base A c l) : l.length ≤ c := h.1.lc
theorem OW.nil (w : World) (base : Nat) : OW w base none 0 [] := ⟨OL.nil .., B32_nil⟩
theorem OW.form (h : OW w base A c l) : (A = none ∧ c = 0 ∧ l = []) ∨ ∃ g, A = some ⟨g, 0, none⟩ ∧ base ≤ g ∧ g < w.heap.size ∧ l.length ≤ c := h.1.form
theorem OW.rw (h : OW w base A c l) : RW w w.heap.size A c l := ⟨h.1.rl, h.2⟩
theorem OW.base_le (h : OW w base A c l) (hb : B ≤ base) : OW w B A c l := ⟨h.1.base_le hb, h.2⟩
theorem OW.lt {g : Nat} (h : OW w base (some ⟨g, 0, none⟩) c l) : base ≤ g ∧ g < w.heap.size := h.1.lt
theorem OW.below (h : OW w base A c l) (hb : Below B w w') (hB : w.heap.size ≤ B) : OW w' base A c l := ⟨h.1.below hb hB, h.2⟩
theorem OW.grown {row : Option Nat} (h : OW w base A c l) (hg : w.grownBy w' row) (hne : ∀ g, A = some ⟨g, 0, none⟩ → row ≠ some g) : OW w' base A c l := ⟨h.1.grown hg hne, h.2⟩
theorem OW.alloc (h : OW w base A c l) (o : Obj) : OW (w.alloc o) base A c l := ⟨h.1.alloc o, h.2⟩
theorem OW.drewN (h : OW w base A c l) (k : Nat) : OW (w.drewN k) base A c l := h
theorem OW.take (h : OW w base A c l) (k : Nat) : OW w base A c (l.take k) := ⟨h.1.take k, B32_take h.2 k⟩
theorem OW.cell {g : Nat} (h : OW w base (some ⟨g, 0, none⟩) c l) {k : Nat} (hk : k < l.length) : w.cell? ⟨g, k, none⟩ = some (.int .u32 (wd l k)) := h.1.cell (wd_get? hk)
theorem OW.frozen {g : Nat} (h : OW w base (some ⟨g, 0, none⟩) c l) (k : Nat) : w.frozen? ⟨g, k, none⟩ = false := h.1.frozen k
theorem OW.set {g : Nat} (h : OW w base (some ⟨g, 0, none⟩) c l) (k : Nat) {x : Nat} (hx : x < 4294967296) :
    OW (w.setCell ⟨g, k, none⟩ (.int .u32 x)) base (some ⟨g, 0, none⟩) c (l.set k x) := ⟨h.1.set k x, B32_set h.2 k hx⟩
theorem OW.far (h : OW w base A c l) {p : Addr} (hp : ∀ g, A = some ⟨g, 0, none⟩ → g ≠ p.block) (u : Value) : OW (w.setCell p u) base A c l := ⟨h.1.far hp u, h.2⟩
/-- a trimmed list -/
theorem RW.norm (h : RW w B A c l) : RW w B A c (digs (val l)) := by rw [← trim_digs h.2]; exact h.take _
theorem OW.norm (h : OW w base A c l) : OW w base A c (digs (val l)) := by rw [← trim_digs h.2]; exact h.take _
end

theorem wp_makeW (w : World) {ops : Array Oper} {rest : List Oper} {o : Oper} {a : Act} {Q : Exit → Act → World → Prop}
    (hg : o.guard = none) (x c : Operand) (hop : o.op = Op.makeSlice 22 x c)
    (kl kc : IntKind) (L C : Int) (n : Nat) (hl : a.eval x = .int kl L) (hc : a.eval c = .int kc C) (hL : L = (n : Int)) (hC : C = (n : Int)) (hn : n ≤ 35184372088832)
    (hK : ∀ w', OW w' w.heap.size (some ⟨w.heap.size, 0, none⟩) n (List.replicate n 0) → Below w.heap.size w w' → w.heap.size + 1 ≤ w'.heap.size → wpList Tryz.prog ops Q rest (a.put o.dst (.slice (some ⟨w.heap.size, 0, none⟩) n n)) w') :
    wpList Tryz.prog ops Q (o :: rest) a w :=
  wp_make w 22 55 fw 0 4 Tryz.underlying22 infoW rfl hg x c hop kl kc L C n hl hc hL hC hn (by omega)
    fun w' h1 h2 h3 => hK w' ⟨h1, B32_replicate n⟩ ((Below.refl _ _).grown h2 (Nat.le_refl _) (by intro k hk; cases hk)) h3

theorem wp_appW (w : World) {ops : Array Oper} {rest : List Oper} {o : Oper} {a : Act} {Q : Exit → Act → World → Prop}
    (hg : o.guard = none) (s x : Operand) (hop : o.op = Op.call { callee := Callee.builtin Builtin.append, args := #[s, x], argTypes := #[22, 22] })
    (base : Nat) (A : Option Addr) (c n : Nat) (l : List Nat) (hs : a.eval s = .slice A n c) (hn : n = l.length) (hown : OW w base A c l)
    (D : Option Addr) (d m : Nat) (r : List Nat) (hx : a.eval x = .slice D m d) (hm : m = r.length) (Br : Nat) (hr : RW w Br D d r)
    (hlen : l.length + r.length ≤ 35184372088832) (hbase : base ≤ w.heap.size)
    (hK : ∀ A' c' w', OW w' base A' c' (l ++ r) → w.grownBy w' (Value.slice A n c).ownBlock → Below base w w' → wpList Tryz.prog ops Q rest (a.put o.dst (.slice A' (l ++ r).length c')) w') :
    wpList Tryz.prog ops Q (o :: rest) a w :=
  wp_app w 22 55 fw 0 4 Tryz.underlying22 infoW (fun _ => ⟨rfl, rfl⟩) hg s x hop base A c n l hs hn hown.1 D d m r hx hm Br hr.1 hlen (by omega) hbase
    fun A' c' w' h1 h2 _ => hK A' c' w' ⟨h1, B32_append hown.2 hr.2⟩ h2 ((Below.refl _ _).grown h2 hbase (by
      intro k hk
      rcases hown.form with ⟨rfl, _⟩ | ⟨g, rfl, hb, _⟩
      · simp [Value.ownBlock] at hk
      · simp [Value.ownBlock] at hk; omega))

/-- one word in a new block, as append's source -/
theorem RW.one (w : World) (t : TypeId) {x : Nat} (hx : x < 4294967296) : RW (w.alloc (.cells #[.int .u32 (x : Int)] t)) (w.heap.size + 1) (some ⟨w.heap.size, 0, none⟩) 1 [x] := by
  refine ⟨⟨by simp, by simp, fun _ => ⟨_, _, rfl, by omega, fun k y hk => ?_⟩⟩, B32_cons hx B32_nil⟩
  match k, hk with
  | 0, hk => simp at hk; subst hk; have := cell_one_new w (.int .u32 (x : Int)) t 0 _ rfl; rwa [Addr.add_lit] at this
theorem RW.two (w : World) (t : TypeId) {x y : Nat} (hx : x < 4294967296) (hy : y < 4294967296) : RW (w.alloc (.cells #[.int .u32 (x : Int), .int .u32 (y : Int)] t)) (w.heap.size + 1) (some ⟨w.heap.size, 0, none⟩) 2 [x, y] := by
  refine ⟨⟨by simp, by simp, fun _ => ⟨_, _, rfl, by omega, fun k z hk => ?_⟩⟩, B32_cons hx (B32_cons hy B32_nil)⟩
  have h0 := heap_alloc_new w (.cells #[.int .u32 (x : Int), .int .u32 (y : Int)] t)
  rw [cell_of_row _ _ _ _ _ _ h0, Nat.zero_add]
  match k, hk with
  | 0, hk => simp at hk; subst hk; rfl
  | 1, hk => simp at hk; subst hk; rfl
/-- a literal of words is the call's own -/
theorem OW.lit (w : World) (l : List Nat) (hl : l.length ≤ 1000) (hb : B32 l) : OW (w.alloc (.cells (l.map fw).toArray 55)) w.heap.size (some ⟨w.heap.size, 0, none⟩) l.length l := by
  refine ⟨⟨?_, by omega⟩, hb⟩
  have h := World.ownsRow_lit (e := 55) (size := 1) w (l.map fw).toArray l.length (Nat.le_refl _) (by unfold maxLen; omega) (by simp)
  simpa using h
theorem OW.empty (w : World) : OW (w.alloc (.cells #[] 55)) w.heap.size (some ⟨w.heap.size, 0, none⟩) 0 [] := OW.lit w [] (by simp) B32_nil
end Go.Proofs.YtbgggepdlkbpoaaGreatDoor
namespace Go.Proofs.YtbgggepdlkbpoaaGreatDoor
open Go.RowKit

theorem ret_int {k : IntKind} {a b : Int} (h : a = b) : Ending.returned (.int k a) = .returned (.int k b) := by rw [h]
theorem ret_slice {A : Option Addr} {c a b : Nat} (h : a = b) : Ending.returned (.slice A a c) = .returned (.slice A b c) := by rw [h]
theorem ret_bool {a b : Bool} (h : a = b) : Ending.returned (.bool a) = .returned (.bool b) := by rw [h]

theorem trim_any (A : Option Addr) (c n : Nat) (l : List Nat) (w : World) (hn : n = l.length) (h : RW w w.heap.size A c l) :
    Calls Tryz.prog 24 #[.slice A n c] w fun e w' => e = .returned (.int .i64 (trimN l l.length)) ∧ w = w' := by
  subst hn
  have hbig := h.big
  go_enter Tryz.func24, Tryz.ntmps24
  go_wp2
  go_loop [3] (fun n => ∃ k : Nat, k ≤ l.length ∧ n = .int .i64 k ∧ Hid (trimN l k = trimN l l.length)) (fun i => (intOf i).toNat)
  case atStart => exact ⟨l.length, Nat.le_refl _, rfl, rfl⟩
  case round =>
    obtain ⟨k, hk, rfl, hk2⟩ := hrel
    by_cases h0 : 0 < k
    · obtain ⟨b, off, rfl, hb, hx⟩ := h.at_ (by omega)
      have hxk := hx (k-1) (by omega)
      clear h hx
      obtain ⟨j, rfl⟩ : ∃ j, k = j+1 := ⟨k-1, by omega⟩
      rw [Nat.add_sub_cancel] at hxk
      by_cases hz : wd l j = 0
      · have hz' : ((wd l j : Int) == 0) = true := by simp [hz]
        have HZ := Lib.hid hz; clear hz
        go_wp2
        go_round
        case rel => exact ⟨j, by omega, by go_num, by have h2 := hk2.out; have h3 := HZ.out; simp only [trimN, h3, if_true] at h2; exact h2⟩
        case measure => simp [intOf]
      · have hz' : ((wd l j : Int) == 0) = false := by simp [hz]
        go_wp2
        go_ret
        refine ⟨?_, rfl⟩
        rw [← hk2.out]
        exact ret_int (by simp only [trimN, hz, if_false]; rfl)
    · obtain rfl : k = 0 := by omega
      go_wp2
      go_ret
      refine ⟨?_, rfl⟩
      rw [← hk2.out]
      rfl

theorem norm_any (A : Option Addr) (c n : Nat) (l : List Nat) (w : World) (hn : n = l.length) (h : RW w w.heap.size A c l) :
    Calls Tryz.prog 49 #[.slice A n c] w fun e w' => e = .returned (.slice A (digs (val l)).length c) ∧ w = w' := by
  have ht := trim_any A c n l w hn h
  subst hn
  have hbig := h.big
  have hlc := h.lc
  have htl := trimN_le l l.length
  have HT : Hid (trimN l l.length = (digs (val l)).length) := trim_len h.b32
  go_enter Tryz.func49, Tryz.ntmps49
  go_wp2_with (go_at_call 24; refine ht.mono ?_; rintro e w' ⟨rfl, rfl⟩)
  go_ret
  exact ⟨by rw [HT.out]; rfl, rfl⟩

def soundB (l : List Nat) : Bool := decide (l.length ≤ 512 ∧ l = digs (val l))

theorem sound_any (A : Option Addr) (c n : Nat) (l : List Nat) (w : World) (hn : n = l.length) (h : RW w w.heap.size A c l) :
    Calls Tryz.prog 74 #[.slice A n c] w fun e w' => e = .returned (.bool (soundB l)) ∧ w = w' := by
  have ht := trim_any A c n l w hn h
  subst hn
  have hbig := h.big
  have htl := trimN_le l l.length
  have HT : Hid (trimN l l.length = l.length ↔ l = digs (val l)) := trim_full h.b32
  by_cases h5 : l.length ≤ 512
  · have h5' : decide ((l.length : Int) ≤ 512) = true := by simp; omega
    by_cases he : trimN l l.length = l.length
    · have he' : ((trimN l l.length : Int) == (l.length : Int)) = true := by simp; omega
      have HE := Lib.hid he; clear he
      go_enter Tryz.func74, Tryz.ntmps74
      go_wp2_with (go_at_call 24; refine ht.mono ?_; rintro e w' ⟨rfl, rfl⟩)
      go_ret
      refine ⟨ret_bool ?_, rfl⟩
      have := HT.out.1 HE.out
      simp [soundB, h5, ← this]
    · have he' : ((trimN l l.length : Int) == (l.length : Int)) = false := by simp; omega
      go_enter Tryz.func74, Tryz.ntmps74
      go_wp2_with (go_at_call 24; refine ht.mono ?_; rintro e w' ⟨rfl, rfl⟩)
      go_ret
      refine ⟨ret_bool ?_, rfl⟩
      have : ¬ l = digs (val l) := fun h => he (HT.out.2 h)
      simp [soundB, this]
  · have h5' : decide ((l.length : Int) ≤ 512) = false := by simp; omega
    go_enter Tryz.func74, Tryz.ntmps74
    go_wp2_with (go_at_call 24; refine ht.mono ?_; rintro e w' ⟨rfl, rfl⟩)
    go_ret
    refine ⟨ret_bool ?_, rfl⟩
    simp [soundB, h5]

def fS (t : Option Addr × Nat × List Nat) : Value := .slice t.1 t.2.2.length t.2.1
def chk (L : List (Option Addr × Nat × List Nat)) : Int := if L.all (fun t => soundB t.2.2) then 0 else 2

theorem check_any (A : Option Addr) (c n : Nat) (L : List (Option Addr × Nat × List Nat)) (w : World) (hn : n = L.length) (h : RL fS w w.heap.size A c L) (hL : ∀ t ∈ L, RW w w.heap.size t.1 t.2.1 t.2.2) :
    Calls Tryz.prog 70 #[.slice A n c] w fun e w' => e = .returned (.int .i64 (chk L)) ∧ w = w' := by
  subst hn
  have hbig := h.big
  go_enter Tryz.func70, Tryz.ntmps70
  go_wp2
  go_loop [7] (fun n => ∃ k : Nat, k ≤ L.length ∧ n = .int .i64 k ∧ Hid ((L.take k).all (fun t => soundB t.2.2) = true)) (fun i => L.length - (intOf i).toNat)
  case atStart => exact ⟨0, Nat.zero_le _, rfl, rfl⟩
  case round =>
    obtain ⟨k, hk, rfl, hk2⟩ := hrel
    by_cases h0 : k < L.length
    · obtain ⟨b, off, rfl, hb, hx⟩ := h.at_ (by omega)
      rcases ht : L[k] with ⟨A1, c1, l1⟩
      have hxk := hx k _ (List.getElem?_eq_getElem h0)
      have hr := hL _ (List.getElem_mem h0)
      rw [ht] at hxk hr
      have hs := sound_any A1 c1 l1.length l1 w rfl hr
      clear hr hx h
      simp only [fS] at hxk
      have HT := Lib.hid ht; clear ht
      cases hsb : soundB l1 with
      | true =>
        rw [hsb] at hs
        have HS := Lib.hid hsb; clear hsb
        go_wp2_with (go_at_call 74; refine hs.mono ?_; rintro e w' ⟨rfl, rfl⟩)
        go_round
        case rel => exact ⟨k + 1, by omega, by go_num, by show _ = _; rw [List.take_succ_eq_append_getElem h0, List.all_append, hk2.out, HT.out]; simp [HS.out]⟩
        case measure => simp [intOf]; omega
      | false =>
        rw [hsb] at hs
        have HS := Lib.hid hsb; clear hsb
        go_wp2_with (go_at_call 74; refine hs.mono ?_; rintro e w' ⟨rfl, rfl⟩)
        go_ret
        refine ⟨?_, rfl⟩
        have : L.all (fun t => soundB t.2.2) = false := by
          rw [List.all_eq_false]
          exact ⟨L[k], List.getElem_mem h0, by rw [HT.out]; simp [HS.out]⟩
        exact ret_int (by simp [chk, this])
    · obtain rfl : k = L.length := by omega
      go_wp2
      go_ret
      refine ⟨?_, rfl⟩
      have := hk2.out
      rw [List.take_length] at this
      exact ret_int (by simp [chk, this])
end Go.Proofs.YtbgggepdlkbpoaaGreatDoor
