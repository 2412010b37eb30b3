/- Merged texts: Plain, PlainB, PlainC, PlainD, PlainE, PlainF, PlainG, PlainH, PlainI, PlainR. -/
namespace Go.Proofs.Ytkjfpaommbjgbaa

/-- what the words of a list, the lowest first, are as a number -/
def val : List Nat → Nat
  | [] => 0
  | x :: l => x + 4294967296 * val l

/-- the words of a number -/
def digs (n : Nat) : List Nat := if h : n = 0 then [] else (n % 4294967296) :: digs (n / 4294967296)
termination_by n
decreasing_by omega

def wd (l : List Nat) (k : Nat) : Nat := l.getD k 0
def B32 (l : List Nat) : Prop := ∀ x ∈ l, x < 4294967296
def Wp (k : Nat) : Nat := 4294967296 ^ k

theorem Wp_zero : Wp 0 = 1 := rfl
theorem Wp_succ (k : Nat) : Wp (k + 1) = 4294967296 * Wp k := by unfold Wp; rw [Nat.pow_succ, Nat.mul_comm]
theorem Wp_pos (k : Nat) : 0 < Wp k := by unfold Wp; exact Nat.pow_pos (by omega)
theorem Wp_add (a b : Nat) : Wp (a + b) = Wp a * Wp b := by unfold Wp; exact Nat.pow_add ..
theorem Wp_eq (k : Nat) : Wp k = 2 ^ (32 * k) := by unfold Wp; rw [Nat.pow_mul]
theorem Wp_mono {a b : Nat} (h : a ≤ b) : Wp a ≤ Wp b := by unfold Wp; exact Nat.pow_le_pow_right (by omega) h

theorem digs_zero : digs 0 = [] := by rw [digs]; simp
theorem digs_pos {n : Nat} (h : n ≠ 0) : digs n = (n % 4294967296) :: digs (n / 4294967296) := by rw [digs]; simp [h]

theorem val_digs (n : Nat) : val (digs n) = n := by
  induction n using Nat.strongRecOn with
  | ind n ih =>
    by_cases h : n = 0
    · subst h; simp [digs_zero, val]
    · rw [digs_pos h, val, ih _ (by omega)]; omega

theorem B32_nil : B32 [] := by intro x h; cases h
theorem B32_cons {x : Nat} {l : List Nat} (hx : x < 4294967296) (h : B32 l) : B32 (x :: l) := by
  intro y hy
  rcases List.mem_cons.1 hy with rfl | h2
  · exact hx
  · exact h _ h2
theorem B32_head {x : Nat} {l : List Nat} (h : B32 (x :: l)) : x < 4294967296 := h x (by simp)
theorem B32_tail {x : Nat} {l : List Nat} (h : B32 (x :: l)) : B32 l := fun y hy => h y (by simp [hy])
theorem B32_append {a b : List Nat} (ha : B32 a) (hb : B32 b) : B32 (a ++ b) := by
  intro x hx
  rcases List.mem_append.1 hx with h | h
  · exact ha _ h
  · exact hb _ h
theorem B32_take {l : List Nat} (h : B32 l) (k : Nat) : B32 (l.take k) := fun x hx => h x (List.mem_of_mem_take hx)
theorem B32_drop {l : List Nat} (h : B32 l) (k : Nat) : B32 (l.drop k) := fun x hx => h x (List.mem_of_mem_drop hx)
theorem B32_set {l : List Nat} (h : B32 l) (k : Nat) {x : Nat} (hx : x < 4294967296) : B32 (l.set k x) := by
  intro y hy
  rcases List.mem_or_eq_of_mem_set hy with h2 | rfl
  · exact h _ h2
  · exact hx
theorem B32_replicate (n : Nat) : B32 (List.replicate n 0) := by
  intro x hx
  rw [List.eq_of_mem_replicate hx]; omega

theorem B32_digs (n : Nat) : B32 (digs n) := by
  induction n using Nat.strongRecOn with
  | ind n ih =>
    by_cases h : n = 0
    · subst h; rw [digs_zero]; exact B32_nil
    · rw [digs_pos h]; exact B32_cons (Nat.mod_lt _ (by omega)) (ih _ (by omega))

theorem wd_lt {l : List Nat} (h : B32 l) (k : Nat) : wd l k < 4294967296 := by
  unfold wd
  by_cases hk : k < l.length
  · rw [List.getD_eq_getElem?_getD, List.getElem?_eq_getElem hk]; exact h _ (List.getElem_mem hk)
  · rw [List.getD_eq_getElem?_getD, List.getElem?_eq_none (by omega)]; simp
theorem wd_out {l : List Nat} {k : Nat} (h : l.length ≤ k) : wd l k = 0 := by
  unfold wd; rw [List.getD_eq_getElem?_getD, List.getElem?_eq_none h]; rfl
theorem wd_zero (x : Nat) (l : List Nat) : wd (x :: l) 0 = x := rfl
theorem wd_succ (x : Nat) (l : List Nat) (k : Nat) : wd (x :: l) (k + 1) = wd l k := rfl
theorem wd_nil (k : Nat) : wd [] k = 0 := rfl
theorem wd_get {l : List Nat} {k : Nat} (h : k < l.length) : l[k] = wd l k := by
  unfold wd; rw [List.getD_eq_getElem?_getD, List.getElem?_eq_getElem h]; rfl
theorem wd_get? {l : List Nat} {k : Nat} (h : k < l.length) : l[k]? = some (wd l k) := by
  rw [List.getElem?_eq_getElem h, wd_get h]
theorem wd_set_eq {l : List Nat} {k x : Nat} (h : k < l.length) : wd (l.set k x) k = x := by
  unfold wd; simp [List.getD_eq_getElem?_getD, h]
theorem wd_set_ne {l : List Nat} {k j x : Nat} (h : k ≠ j) : wd (l.set k x) j = wd l j := by
  unfold wd; simp [List.getD_eq_getElem?_getD, h]
theorem wd_append_left {a b : List Nat} {k : Nat} (h : k < a.length) : wd (a ++ b) k = wd a k := by
  unfold wd; simp [List.getD_eq_getElem?_getD, List.getElem?_append, h]
theorem wd_append_right {a b : List Nat} {k : Nat} : wd (a ++ b) (a.length + k) = wd b k := by
  unfold wd; simp only [List.getD_eq_getElem?_getD]; rw [List.getElem?_append_right (by omega), Nat.add_sub_cancel_left]
theorem wd_take {l : List Nat} {k n : Nat} (h : k < n) : wd (l.take n) k = wd l k := by
  unfold wd; simp [List.getD_eq_getElem?_getD, h]
theorem wd_drop (l : List Nat) (k n : Nat) : wd (l.drop n) k = wd l (n + k) := by
  unfold wd; simp [List.getD_eq_getElem?_getD, List.getElem?_drop]
theorem wd_replicate (n k : Nat) : wd (List.replicate n 0) k = 0 := by
  unfold wd; simp [List.getD_eq_getElem?_getD, List.getElem?_replicate]; split <;> rfl
theorem wd_ext {a b : List Nat} (hl : a.length = b.length) (h : ∀ k, k < a.length → wd a k = wd b k) : a = b := by
  refine List.ext_getElem hl fun k h1 h2 => ?_
  rw [wd_get h1, wd_get h2]; exact h k h1

theorem val_one (x : Nat) : val [x] = x := by simp [val]
theorem val_append (a b : List Nat) : val (a ++ b) = val a + Wp a.length * val b := by
  induction a with
  | nil => simp [val, Wp_zero]
  | cons x a ih => simp only [List.cons_append, val, ih, List.length_cons, Wp_succ, Nat.mul_add, Nat.mul_assoc, Nat.add_assoc]
theorem val_lt {l : List Nat} (h : B32 l) : val l < Wp l.length := by
  induction l with
  | nil => simp [val, Wp_zero]
  | cons x l ih =>
    have := ih (B32_tail h); have hx := B32_head h
    simp only [val, List.length_cons, Wp_succ]; omega
theorem val_replicate (n : Nat) : val (List.replicate n 0) = 0 := by
  induction n with
  | zero => rfl
  | succ n ih => simp [List.replicate_succ, val, ih]
theorem take_succ_wd {l : List Nat} {k : Nat} (h : k < l.length) : l.take (k + 1) = l.take k ++ [wd l k] := by
  rw [List.take_succ_eq_append_getElem h, wd_get h]
theorem val_take_succ {l : List Nat} {k : Nat} (h : k < l.length) : val (l.take (k + 1)) = val (l.take k) + wd l k * Wp k := by
  rw [take_succ_wd h, val_append, List.length_take, Nat.min_eq_left (Nat.le_of_lt h), Nat.mul_comm]
  simp only [val, Nat.mul_zero, Nat.add_zero]
theorem val_take_out {l : List Nat} {k : Nat} (h : l.length ≤ k) : val (l.take (k + 1)) = val (l.take k) := by
  rw [List.take_of_length_le h, List.take_of_length_le (by omega)]
theorem val_take_succ' (l : List Nat) (k : Nat) : val (l.take (k + 1)) = val (l.take k) + wd l k * Wp k := by
  by_cases h : k < l.length
  · exact val_take_succ h
  · rw [val_take_out (by omega), wd_out (by omega)]; simp
theorem val_take_set {l : List Nat} {k x : Nat} (h : k < l.length) : val ((l.set k x).take (k + 1)) = val (l.take k) + x * Wp k := by
  rw [val_take_succ (by simpa using h), wd_set_eq h, List.take_set_of_le (Nat.le_refl _)]
theorem val_take_set_le {l : List Nat} {k j x : Nat} (h : j ≤ k) : val ((l.set k x).take j) = val (l.take j) := by
  rw [List.take_set_of_le h]
theorem val_take_all {l : List Nat} {k : Nat} (h : l.length ≤ k) : val (l.take k) = val l := by rw [List.take_of_length_le h]
theorem val_split (l : List Nat) (k : Nat) : val l = val (l.take k) + Wp (min k l.length) * val (l.drop k) := by
  conv => lhs; rw [← List.take_append_drop k l]
  rw [val_append, List.length_take]
theorem val_take_lt {l : List Nat} (h : B32 l) (k : Nat) : val (l.take k) < Wp k :=
  Nat.lt_of_lt_of_le (val_lt (B32_take h k)) (Wp_mono (by rw [List.length_take]; omega))

/-- the places without the noughts at the end -/
def trimN (l : List Nat) : Nat → Nat
  | 0 => 0
  | n + 1 => if wd l n = 0 then trimN l n else n + 1
theorem trimN_le (l : List Nat) (n : Nat) : trimN l n ≤ n := by
  induction n with
  | zero => simp [trimN]
  | succ n ih => simp only [trimN]; split <;> omega
theorem val_trimN (l : List Nat) (n : Nat) : val (l.take (trimN l n)) = val (l.take n) := by
  induction n with
  | zero => rfl
  | succ n ih =>
    simp only [trimN]
    split
    · rename_i h; rw [ih, val_take_succ', h]; simp
    · rfl
/-- a list without noughts at its end -/
def Nrm (l : List Nat) : Prop := l = [] ∨ wd l (l.length - 1) ≠ 0
theorem Nrm_nil : Nrm [] := .inl rfl
theorem Nrm_tail {x : Nat} {l : List Nat} (h : Nrm (x :: l)) : Nrm l := by
  cases l with
  | nil => exact .inl rfl
  | cons y l =>
    right
    rcases h with h | h
    · cases h
    · simpa [wd] using h
theorem digs_val {l : List Nat} (hb : B32 l) (hn : Nrm l) : digs (val l) = l := by
  induction l with
  | nil => simp [val, digs_zero]
  | cons x l ih =>
    have hx := B32_head hb
    have ih := ih (B32_tail hb) (Nrm_tail hn)
    have hne : val (x :: l) ≠ 0 := by
      intro h0
      simp only [val] at h0
      have hx0 : x = 0 := by omega
      have hl0 : val l = 0 := by omega
      rw [hl0, digs_zero] at ih
      subst ih
      rcases hn with h | h
      · cases h
      · simp [wd] at h; omega
    rw [digs_pos hne]
    simp only [val]
    rw [show (x + 4294967296 * val l) % 4294967296 = x by omega, show (x + 4294967296 * val l) / 4294967296 = val l by omega, ih]
theorem Nrm_digs (n : Nat) : Nrm (digs n) := by
  induction n using Nat.strongRecOn with
  | ind n ih =>
    by_cases h : n = 0
    · subst h; rw [digs_zero]; exact .inl rfl
    · right
      rw [digs_pos h]
      rcases ih (n / 4294967296) (by omega) with h2 | h2
      · rw [h2]
        have : n / 4294967296 = 0 := by have := val_digs (n / 4294967296); rw [h2] at this; simpa [val] using this.symm
        simp [wd]; omega
      · cases hd : digs (n / 4294967296) with
        | nil =>
          have : n / 4294967296 = 0 := by have := val_digs (n / 4294967296); rw [hd] at this; simpa [val] using this.symm
          simp [wd]; omega
        | cons y l => rw [hd] at h2; simpa [wd] using h2
theorem Nrm_trim (l : List Nat) (n : Nat) (hn : n ≤ l.length) : Nrm (l.take (trimN l n)) := by
  induction n with
  | zero => left; simp [trimN]
  | succ n ih =>
    simp only [trimN]
    split
    · exact ih (by omega)
    · rename_i h
      right
      rw [List.length_take, Nat.min_eq_left hn, Nat.add_sub_cancel, wd_take (by omega)]
      exact h
theorem trim_digs {l : List Nat} (hb : B32 l) : l.take (trimN l l.length) = digs (val l) := by
  have h := digs_val (B32_take hb (trimN l l.length)) (Nrm_trim l l.length (Nat.le_refl _))
  rw [val_trimN, List.take_of_length_le (Nat.le_refl _)] at h
  exact h.symm
theorem trim_len {l : List Nat} (hb : B32 l) : trimN l l.length = (digs (val l)).length := by
  rw [← trim_digs hb, List.length_take]; have := trimN_le l l.length; omega
theorem trim_full {l : List Nat} (hb : B32 l) : trimN l l.length = l.length ↔ l = digs (val l) := by
  constructor
  · intro h
    have := trim_digs hb; rw [h, List.take_of_length_le (Nat.le_refl _)] at this; exact this
  · intro h
    rw [trim_len hb, ← h]
theorem digs_len_le {n k : Nat} : (digs n).length ≤ k ↔ n < Wp k := by
  constructor
  · intro h
    have := val_lt (B32_digs n); rw [val_digs] at this
    exact Nat.lt_of_lt_of_le this (Wp_mono h)
  · induction k generalizing n with
    | zero => intro h; rw [Wp_zero] at h; have : n = 0 := by omega
              subst this; simp [digs_zero]
    | succ k ih =>
      intro h
      by_cases h0 : n = 0
      · subst h0; simp [digs_zero]
      · rw [digs_pos h0, List.length_cons]
        have := ih (n := n / 4294967296) (by rw [Wp_succ] at h; exact Nat.div_lt_of_lt_mul h)
        omega
theorem digs_len_lt {n k : Nat} : k < (digs n).length ↔ Wp k ≤ n := by
  have := @digs_len_le n k
  omega
theorem digs_inj {a b : Nat} (h : digs a = digs b) : a = b := by rw [← val_digs a, ← val_digs b, h]
theorem digs_nil {n : Nat} : digs n = [] ↔ n = 0 := by
  constructor
  · intro h; have := val_digs n; rw [h] at this; simpa [val] using this.symm
  · rintro rfl; exact digs_zero
theorem digs_len0 {n : Nat} : (digs n).length = 0 ↔ n = 0 := by rw [List.length_eq_zero_iff, digs_nil]
theorem digs_one {n : Nat} (h0 : n ≠ 0) (h : n < 4294967296) : digs n = [n] := by
  rw [digs_pos h0, Nat.mod_eq_of_lt h, Nat.div_eq_of_lt h, digs_zero]

/-- the order of lists without noughts at the end: by length, then from the last word down -/
def cmpN (x y : Nat) : Int := if x < y then -1 else if x = y then 0 else 1
theorem top_lt {a b : List Nat} (hb : B32 b) {k : Nat} (hk : k < a.length) (hlt : wd a k > wd b k) (hd : a.drop (k + 1) = b.drop (k + 1)) (hbB : k < b.length) (hl : a.length = b.length) : val b < val a := by
  rw [val_split a (k + 1), val_split b (k + 1), hd, hl, val_take_succ hk, val_take_succ hbB]
  have h1 := val_take_lt hb k
  have h2 : (wd b k + 1) * Wp k ≤ wd a k * Wp k := Nat.mul_le_mul_right _ hlt
  rw [Nat.add_mul] at h2
  omega

theorem val_ge {l : List Nat} (h : wd l (l.length - 1) ≠ 0) : Wp (l.length - 1) ≤ val l := by
  have hl : 0 < l.length := by
    rcases Nat.eq_zero_or_pos l.length with h0 | h0
    · exact absurd (wd_out (by omega)) h
    · exact h0
  have h1 := val_take_succ (l := l) (k := l.length - 1) (by omega)
  rw [Nat.sub_add_cancel hl, List.take_length] at h1
  rw [h1]
  have : 1 * Wp (l.length - 1) ≤ wd l (l.length - 1) * Wp (l.length - 1) := Nat.mul_le_mul_right _ (by omega)
  omega
theorem len_lt {a b : List Nat} (ha : B32 a) (hb : Nrm b) (h : a.length < b.length) : val a < val b := by
  rcases hb with rfl | hb
  · simp at h
  · have h1 := val_ge hb
    have h2 := val_lt ha
    have h3 := Wp_mono (show a.length ≤ b.length - 1 by omega)
    omega
theorem drop_wd {l : List Nat} {k : Nat} (h : k < l.length) : l.drop k = wd l k :: l.drop (k + 1) := by
  rw [List.drop_eq_getElem_cons h, wd_get h]
theorem Nrm_of_digs {l : List Nat} (h : l = digs (val l)) : Nrm l := by rw [h]; exact Nrm_digs _
theorem val_inj {a b : List Nat} (ha : a = digs (val a)) (hb : b = digs (val b)) (h : val a = val b) : a = b := by rw [ha, hb, h]
theorem cmpN_self (x : Nat) : cmpN x x = 0 := by simp [cmpN]
theorem cmpN_lt {x y : Nat} (h : x < y) : cmpN x y = -1 := by simp [cmpN, h]
theorem cmpN_gt {x y : Nat} (h : y < x) : cmpN x y = 1 := by simp [cmpN, show ¬ x < y by omega, show ¬ x = y by omega]

theorem bit31 {v : Nat} (h : v < 4294967296) : v.testBit 31 = decide (2147483648 ≤ v) := by
  rw [Nat.testBit_eq_decide_div_mod_eq]
  by_cases h1 : 2147483648 ≤ v
  · rw [decide_eq_true h1, decide_eq_true (by omega)]
  · rw [decide_eq_false h1, decide_eq_false (by omega)]
theorem top_bit {v : Nat} (h : v < 4294967296) : v / 2147483648 = (v.testBit 31).toNat := by
  rw [bit31 h]
  by_cases h1 : 2147483648 ≤ v
  · rw [decide_eq_true h1]; simp; omega
  · rw [decide_eq_false h1]; simp; omega
def sdf32 (x y z : Nat) : Nat := (x + 8589934592 - y - z) % 4294967296
def bor32 (x y z : Nat) : Nat := if x < y + z then 1 else 0
theorem sub_borrow {x y z d : Nat} (hx : x < 4294967296) (hy : y < 4294967296) (hz : z ≤ 1) (hd : d = (x + 8589934592 - y - z) % 4294967296) :
    (((4294967295 ^^^ x) &&& y) ||| ((4294967295 ^^^ (x ^^^ y)) &&& d)) / 2147483648 = bor32 x y z := by
  have hd2 : d < 4294967296 := by omega
  have h1 : (4294967295 ^^^ x) < 2 ^ 32 := Nat.xor_lt_two_pow (by omega) (by omega)
  have h2 : (4294967295 ^^^ (x ^^^ y)) < 2 ^ 32 := Nat.xor_lt_two_pow (by omega) (Nat.xor_lt_two_pow (by omega) (by omega))
  have h3 : ((4294967295 ^^^ x) &&& y) < 2 ^ 32 := Nat.and_lt_two_pow _ (by omega)
  have h4 : ((4294967295 ^^^ (x ^^^ y)) &&& d) < 2 ^ 32 := Nat.and_lt_two_pow _ (by omega)
  have h5 := Nat.or_lt_two_pow h3 h4
  rw [top_bit (by omega)]
  simp only [Nat.testBit_or, Nat.testBit_and, Nat.testBit_xor, bit31 hx, bit31 hy, bit31 hd2, bit31 (show 4294967295 < 4294967296 by omega)]
  unfold bor32
  by_cases c1 : 2147483648 ≤ x <;> by_cases c2 : 2147483648 ≤ y <;> by_cases c3 : 2147483648 ≤ d <;> simp [c1, c2, c3] <;> omega

/-! ### sums -/
def addf (x y z : Nat) : Nat := (x + y + z) % 4294967296
def addc (x y z : Nat) : Nat := (x + y + z) / 4294967296
theorem addf_lt (x y z : Nat) : addf x y z < 4294967296 := Nat.mod_lt _ (by omega)
theorem addc_le {x y z : Nat} (hx : x < 4294967296) (hy : y < 4294967296) (hz : z ≤ 1) : addc x y z ≤ 1 := by unfold addc; omega
theorem add_eq (x y z : Nat) : addf x y z + addc x y z * 4294967296 = x + y + z := by unfold addf addc; omega
theorem plus_step {a b o : List Nat} {k q : Nat} (ho : k < o.length) (h : val (o.take k) + q * Wp k = val (a.take k) + val (b.take k)) :
    val ((o.set k (addf (wd a k) (wd b k) q)).take (k + 1)) + addc (wd a k) (wd b k) q * Wp (k + 1) = val (a.take (k + 1)) + val (b.take (k + 1)) := by
  rw [val_take_set ho, val_take_succ' a, val_take_succ' b, Wp_succ]
  have e := add_eq (wd a k) (wd b k) q
  generalize addf (wd a k) (wd b k) q = f at *
  generalize addc (wd a k) (wd b k) q = c at *
  have e2 : (f + c * 4294967296) * Wp k = (wd a k + wd b k + q) * Wp k := by rw [e]
  rw [Nat.add_mul, Nat.add_mul, Nat.add_mul] at e2
  have e3 : c * (4294967296 * Wp k) = c * 4294967296 * Wp k := by rw [Nat.mul_assoc]
  omega
theorem plus_end {a b o : List Nat} {n q : Nat} (ho : o.length = n + 1) (ha : a.length ≤ n) (hb : b.length ≤ n) (h : val (o.take n) + q * Wp n = val (a.take n) + val (b.take n)) :
    val (o.set n q) = val a + val b := by
  have h1 := val_take_set (l := o) (k := n) (x := q) (by omega)
  rw [val_take_all (by rw [List.length_set]; omega)] at h1
  rw [h1, h, val_take_all ha, val_take_all hb]

/-! ### differences -/
theorem sub_eq {x y z : Nat} (hx : x < 4294967296) (hy : y < 4294967296) (hz : z ≤ 1) : sdf32 x y z + y + z = x + bor32 x y z * 4294967296 := by
  unfold sdf32 bor32; split <;> omega
theorem sdf_lt (x y z : Nat) : sdf32 x y z < 4294967296 := by unfold sdf32; omega
theorem bor_le (x y z : Nat) : bor32 x y z ≤ 1 := by unfold bor32; split <;> omega
theorem less_step {a b o : List Nat} {k q : Nat} (ha : B32 a) (hb : B32 b) (hq : q ≤ 1) (ho : k < o.length) (h : val (o.take k) + val (b.take k) = val (a.take k) + q * Wp k) :
    val ((o.set k (sdf32 (wd a k) (wd b k) q)).take (k + 1)) + val (b.take (k + 1)) = val (a.take (k + 1)) + bor32 (wd a k) (wd b k) q * Wp (k + 1) := by
  rw [val_take_set ho, val_take_succ' a, val_take_succ' b, Wp_succ]
  have e := sub_eq (wd_lt ha k) (wd_lt hb k) hq
  generalize sdf32 (wd a k) (wd b k) q = f at *
  generalize bor32 (wd a k) (wd b k) q = c at *
  have e2 : (f + wd b k + q) * Wp k = (wd a k + c * 4294967296) * Wp k := by rw [e]
  rw [Nat.add_mul, Nat.add_mul, Nat.add_mul] at e2
  have e3 : c * (4294967296 * Wp k) = c * 4294967296 * Wp k := by rw [Nat.mul_assoc]
  omega
theorem less_end {a b o : List Nat} {q : Nat} (ho : o.length = a.length) (hoB : B32 o) (hb : b.length ≤ a.length) (hle : val b ≤ val a)
    (h : val (o.take a.length) + val (b.take a.length) = val (a.take a.length) + q * Wp a.length) : val o = val a - val b := by
  rw [val_take_all (by omega), val_take_all hb, val_take_all (Nat.le_refl _)] at h
  have h1 := val_lt hoB
  rw [ho] at h1
  have : q = 0 := by
    rcases Nat.eq_zero_or_pos q with h0 | h0
    · exact h0
    · have : 1 * Wp a.length ≤ q * Wp a.length := Nat.mul_le_mul_right _ h0
      omega
  subst this
  omega

/-! ### products -/
theorem val_set {o : List Nat} {k : Nat} (x : Nat) (h : k < o.length) : val (o.set k x) + wd o k * Wp k = val o + x * Wp k := by
  have h1 := val_split (o.set k x) (k + 1)
  have h2 := val_split o (k + 1)
  rw [val_take_set h, List.length_set, List.drop_set_of_lt (by omega)] at h1
  rw [val_take_succ h] at h2
  omega
theorem mul_le64 {x y : Nat} (hx : x < 4294967296) (hy : y < 4294967296) : x * y ≤ 18446744065119617025 := Nat.mul_le_mul (show x ≤ 4294967295 by omega) (show y ≤ 4294967295 by omega)
theorem times_step {b o o' : List Nat} {i j c v : Nat} (hk : i + j < o'.length) (x : Nat) (hv : v = c + (x * wd b j + wd o' (i + j))) (h : val o' + c * Wp (i + j) = val o + x * Wp i * val (b.take j)) :
    val (o'.set (i + j) (v % 4294967296)) + v / 4294967296 * Wp (i + j + 1) = val o + x * Wp i * val (b.take (j + 1)) := by
  have h1 := val_set (v % 4294967296) hk
  have e : v % 4294967296 + v / 4294967296 * 4294967296 = v := by omega
  generalize v % 4294967296 = f at *
  generalize v / 4294967296 = g at *
  rw [val_take_succ' b, Wp_succ, Nat.mul_add, ← Nat.add_assoc, ← h]
  have e2 : (f + g * 4294967296) * Wp (i + j) = (c + (x * wd b j + wd o' (i + j))) * Wp (i + j) := by rw [e, hv]
  rw [Nat.add_mul, Nat.add_mul, Nat.add_mul] at e2
  have e3 : g * (4294967296 * Wp (i + j)) = g * 4294967296 * Wp (i + j) := by rw [Nat.mul_assoc]
  have e4 : x * Wp i * (wd b j * Wp j) = x * wd b j * Wp (i + j) := by
    rw [Wp_add, Nat.mul_assoc, Nat.mul_assoc]
    congr 1
    rw [← Nat.mul_assoc, ← Nat.mul_assoc, Nat.mul_comm (Wp i)]
  omega
def tf (c x y o : Nat) : Nat := (c + (x * y + o)) % 4294967296
def tc (c x y o : Nat) : Nat := (c + (x * y + o)) / 4294967296
theorem mulI {x y : Nat} (hx : x < 4294967296) (hy : y < 4294967296) : 0 ≤ (x : Int) * (y : Int) ∧ (x : Int) * (y : Int) ≤ 18446744065119617025 := by
  have h := mul_le64 hx hy
  rw [← Int.natCast_mul]
  generalize x * y = p at *
  omega
theorem tf_int (c x y o : Nat) : ((c : Int) + ((x : Int) * (y : Int) + (o : Int))) % 4294967296 = (tf c x y o : Int) := by
  unfold tf; rw [← Int.natCast_mul]
  generalize x * y = p at *
  omega
theorem tc_int (c x y o : Nat) : ((c : Int) + ((x : Int) * (y : Int) + (o : Int))) / 4294967296 = (tc c x y o : Int) := by
  unfold tc; rw [← Int.natCast_mul]
  generalize x * y = p at *
  omega
theorem tf_lt (c x y o : Nat) : tf c x y o < 4294967296 := Nat.mod_lt _ (by omega)
theorem tc_lt {c x y o : Nat} (hc : c < 4294967296) (hx : x < 4294967296) (hy : y < 4294967296) (ho : o < 4294967296) : tc c x y o < 4294967296 := by
  have := mul_le64 hx hy; unfold tc; omega
theorem times_end {a b o o' : List Nat} {i c : Nat} (hk : i + b.length < o'.length) (hz : wd o' (i + b.length) = 0) (h : val o' + c * Wp (i + b.length) = val o + wd a i * Wp i * val (b.take b.length)) (h0 : val o = val (a.take i) * val b) :
    val (o'.set (i + b.length) c) = val (a.take (i + 1)) * val b := by
  have h1 := val_set c hk
  rw [hz, Nat.zero_mul, Nat.add_zero, h, List.take_length, h0, ← Nat.add_mul] at h1
  rw [h1, val_take_succ']

def uf (o x y c : Nat) : Nat := (o + x * y + c) % 4294967296
def uc (o x y c : Nat) : Nat := (o + x * y + c) / 4294967296
theorem uf_eq (o x y c : Nat) : uf o x y c = (c + (x * y + o)) % 4294967296 := by unfold uf; congr 1; omega
theorem uc_eq (o x y c : Nat) : uc o x y c = (c + (x * y + o)) / 4294967296 := by unfold uc; congr 1; omega
theorem uf_int (c x y o : Nat) : ((o : Int) + (x : Int) * (y : Int) + (c : Int)) % 4294967296 = (uf o x y c : Int) := by
  unfold uf; rw [← Int.natCast_mul]
  generalize x * y = p at *
  omega
theorem uc_int (c x y o : Nat) : ((o : Int) + (x : Int) * (y : Int) + (c : Int)) / 4294967296 = (uc o x y c : Int) := by
  unfold uc; rw [← Int.natCast_mul]
  generalize x * y = p at *
  omega
theorem uf_lt (c x y o : Nat) : uf c x y o < 4294967296 := Nat.mod_lt _ (by omega)
theorem uc_lt {c x y o : Nat} (hc : c < 4294967296) (hx : x < 4294967296) (hy : y < 4294967296) (ho : o < 4294967296) : uc o x y c < 4294967296 := by
  rw [uc_eq]; exact tc_lt hc hx hy ho
theorem rtimes_step {b o o' : List Nat} {i j c : Nat} (hk : i + j < o'.length) (x : Nat) (h : val o' + c * Wp (i + j) = val o + x * Wp i * val (b.take j)) :
    val (o'.set (i + j) (uf (wd o' (i + j)) x (wd b j) c)) + uc (wd o' (i + j)) x (wd b j) c * Wp (i + (j + 1)) = val o + x * Wp i * val (b.take (j + 1)) := by
  rw [uf_eq, uc_eq]
  exact times_step hk x rfl h
theorem rtimes_end {a b o o' : List Nat} {i : Nat} (h : val o' + 0 * Wp (i + (b.length + 1)) = val o + wd a i * Wp i * val (b.take (b.length + 1))) (h0 : val o = val (a.take i) * val b) :
    val o' = val (a.take (i + 1)) * val b := by
  rw [val_take_all (by omega)] at h
  rw [val_take_succ', Nat.add_mul, ← h0]; omega
theorem uc_zero {x c : Nat} (hc : c < 4294967296) : uc 0 x 0 c = 0 := by unfold uc; simp; omega

/-! ### bits -/
/-- how many bits a number has -/
def blen (n : Nat) : Nat := if h : n = 0 then 0 else blen (n / 2) + 1
termination_by n
decreasing_by omega
theorem blen_zero : blen 0 = 0 := by rw [blen]; simp
theorem blen_pos {n : Nat} (h : n ≠ 0) : blen n = blen (n / 2) + 1 := by rw [blen]; simp [h]
theorem blen_div {n : Nat} (k : Nat) (h : 2 ^ k ≤ n) : blen n = blen (n / 2 ^ k) + k := by
  induction k with
  | zero => simp
  | succ k ih =>
    have h1 : 2 ^ k ≤ n := Nat.le_trans (Nat.pow_le_pow_right (by omega) (by omega)) h
    rw [ih h1]
    have h2 : 2 ≤ n / 2 ^ k := by
      rw [Nat.le_div_iff_mul_le (Nat.pow_pos (by omega))]
      rw [Nat.pow_succ] at h; omega
    have e : n / 2 ^ k / 2 = n / 2 ^ (k + 1) := by rw [Nat.div_div_eq_div_mul, ← Nat.pow_succ]
    rw [blen_pos (by omega), e, Nat.add_assoc, Nat.add_comm 1 k]
theorem blen_lt (n : Nat) : n < 2 ^ blen n := by
  induction n using Nat.strongRecOn with
  | ind n ih =>
    by_cases h : n = 0
    · subst h; simp [blen_zero]
    · rw [blen_pos h, Nat.pow_succ]
      have := ih (n / 2) (by omega)
      omega
theorem blen_ge {n : Nat} (h : n ≠ 0) : 2 ^ (blen n - 1) ≤ n := by
  induction n using Nat.strongRecOn with
  | ind n ih =>
    rw [blen_pos h, Nat.add_sub_cancel]
    by_cases h1 : n / 2 = 0
    · rw [h1, blen_zero]; omega
    · have h2 := ih (n / 2) (by omega) h1
      have h3 : blen (n / 2) = (blen (n / 2) - 1) + 1 := by rw [blen_pos h1]; omega
      rw [h3, Nat.pow_succ]; omega
theorem blen_le {n k : Nat} : blen n ≤ k ↔ n < 2 ^ k := by
  constructor
  · intro h
    exact Nat.lt_of_lt_of_le (blen_lt n) (Nat.pow_le_pow_right (by omega) h)
  · intro h
    rcases Nat.lt_or_ge k (blen n) with h1 | h1
    · have hn : n ≠ 0 := by intro h0; subst h0; rw [blen_zero] at h1; omega
      have h2 := blen_ge hn
      have h3 := Nat.pow_le_pow_right (n := 2) (by omega) (show k ≤ blen n - 1 by omega)
      omega
    · exact h1
theorem wd_val {l : List Nat} (h : B32 l) (i : Nat) : wd l i = val l / Wp i % 4294967296 := by
  have h1 := val_split l (i + 1)
  rw [val_take_succ'] at h1
  have h2 := val_take_lt h i
  have h3 := wd_lt h i
  have hp := Wp_pos i
  by_cases hi : i < l.length
  · rw [Nat.min_eq_left (by omega), Wp_succ] at h1
    have e : val l = val (l.take i) + Wp i * (wd l i + 4294967296 * val (l.drop (i + 1))) := by
      rw [h1, Nat.mul_add, Nat.mul_comm (Wp i) (wd l i), ← Nat.mul_assoc, Nat.mul_comm (Wp i) 4294967296, Nat.add_assoc]
    rw [e, Nat.add_mul_div_left _ _ hp, Nat.div_eq_of_lt h2]
    omega
  · rw [wd_out (by omega)]
    have := val_lt h
    rw [Nat.div_eq_of_lt (Nat.lt_of_lt_of_le this (Wp_mono (by omega)))]
/-- the bit k of a number -/
def bitN (n k : Nat) : Nat := n / 2 ^ k % 2
theorem bitN_lt (n k : Nat) : bitN n k < 2 := Nat.mod_lt _ (by omega)
theorem bit_wd {l : List Nat} (h : B32 l) (k : Nat) : wd l (k / 32) / 2 ^ (k % 32) % 2 = bitN (val l) k := by
  rw [wd_val h, Wp_eq]
  unfold bitN
  generalize val l = n
  have hk : k = 32 * (k / 32) + k % 32 := by omega
  have hs : k % 32 < 32 := Nat.mod_lt _ (by omega)
  generalize k / 32 = i at *
  generalize k % 32 = s at *
  subst hk
  rw [Nat.pow_add, ← Nat.div_div_eq_div_mul]
  generalize n / 2 ^ (32 * i) = m
  have e : 4294967296 = 2 ^ s * 2 ^ (32 - s) := by rw [← Nat.pow_add]; rw [show s + (32 - s) = 32 by omega]
  rw [e, Nat.mod_mul_right_div_self]
  rw [show 32 - s = (31 - s) + 1 by omega, Nat.pow_succ, Nat.mul_comm]
  rw [Nat.mod_mul_right_mod]
theorem bitN_top {n k : Nat} (h : n < 2 ^ (k + 1)) : bitN n k = if 2 ^ k ≤ n then 1 else 0 := by
  unfold bitN
  rw [Nat.pow_succ] at h
  split
  · rename_i h1
    have : n / 2 ^ k = 1 := by
      apply Nat.div_eq_of_lt_le <;> omega
    rw [this]
  · rename_i h1
    rw [Nat.div_eq_of_lt (by omega)]
end Go.Proofs.Ytkjfpaommbjgbaa
namespace Go.Proofs.Ytkjfpaommbjgbaa

def shlo (x s : Nat) : Nat := x * 2 ^ s % 4294967296
def shhi (x s : Nat) : Nat := x * 2 ^ s / 4294967296
theorem pow_split {s : Nat} (h : s ≤ 32) : 4294967296 = 2 ^ (32 - s) * 2 ^ s := by rw [← Nat.pow_add, Nat.sub_add_cancel h]
theorem sh_eq (x s : Nat) : shlo x s + shhi x s * 4294967296 = x * 2 ^ s := by unfold shlo shhi; omega
theorem shlo_form {x s : Nat} (h : s < 32) : shlo x s = x % 2 ^ (32 - s) * 2 ^ s := by
  unfold shlo
  conv => lhs; rw [pow_split (Nat.le_of_lt h)]
  rw [Nat.mul_mod_mul_right]
theorem shlo_lt (x s : Nat) : shlo x s < 4294967296 := Nat.mod_lt _ (by omega)
theorem shhi_lt {x s : Nat} (hx : x < 4294967296) : shhi x s < 2 ^ s := by
  unfold shhi
  rw [Nat.div_lt_iff_lt_mul (by omega), Nat.mul_comm (2 ^ s)]
  exact Nat.mul_lt_mul_of_pos_right hx (Nat.pow_pos (by omega))
theorem pow_le32 {s : Nat} (h : s < 32) : 2 ^ s ≤ 2147483648 := by
  have := Nat.pow_le_pow_right (n := 2) (by omega) (show s ≤ 31 by omega)
  simpa using this
theorem or_shlo {y x s : Nat} (h : s < 32) (hy : y < 2 ^ s) : y ||| shlo x s = y + shlo x s ∧ y + shlo x s < 4294967296 := by
  rw [shlo_form h]
  constructor
  · have := Nat.two_pow_add_eq_or_of_lt hy (x % 2 ^ (32 - s))
    rw [Nat.or_comm, Nat.mul_comm _ (2 ^ s), ← this, Nat.add_comm]
  · have h1 : x % 2 ^ (32 - s) + 1 ≤ 2 ^ (32 - s) := Nat.mod_lt _ (Nat.pow_pos (by omega))
    have h2 := Nat.mul_le_mul_right (2 ^ s) h1
    rw [← pow_split (Nat.le_of_lt h), Nat.add_mul] at h2
    omega
theorem two_pow_kq (k : Nat) : 2 ^ k = 2 ^ (k % 32) * Wp (k / 32) := by
  rw [Wp_eq, ← Nat.pow_add]; congr 1; omega
/-- one word more of a list times a power of 2 -/
theorem up_step {a o : List Nat} {i k : Nat} (hok : i + k / 32 + 1 < o.length) (hz : wd o (i + k / 32 + 1) = 0) (h : val o = val (a.take i) * 2 ^ k) :
    val ((o.set (i + k / 32) (wd o (i + k / 32) + shlo (wd a i) (k % 32))).set (i + k / 32 + 1) (shhi (wd a i) (k % 32))) = val (a.take (i + 1)) * 2 ^ k := by
  have h1 := val_set (o := o) (k := i + k / 32) (wd o (i + k / 32) + shlo (wd a i) (k % 32)) (by omega)
  have h2 := val_set (o := o.set (i + k / 32) (wd o (i + k / 32) + shlo (wd a i) (k % 32))) (k := i + k / 32 + 1) (shhi (wd a i) (k % 32)) (by rw [List.length_set]; exact hok)
  rw [wd_set_ne (by omega), hz] at h2
  have e := sh_eq (wd a i) (k % 32)
  generalize shlo (wd a i) (k % 32) = lo at *
  generalize shhi (wd a i) (k % 32) = hi at *
  rw [val_take_succ', Nat.add_mul, ← h]
  have e2 : wd a i * Wp i * 2 ^ k = (lo + hi * 4294967296) * Wp (i + k / 32) := by
    rw [e, two_pow_kq k, Wp_add, Nat.mul_assoc, Nat.mul_assoc]
    congr 1
    rw [← Nat.mul_assoc, Nat.mul_comm (Wp i), Nat.mul_assoc]
  rw [e2, Nat.add_mul, Nat.mul_assoc, ← Wp_succ]
  rw [Nat.add_mul] at h1
  omega
/-- the reference's way: behind the words there is a carry -/
theorem rup_step {a o : List Nat} {i k c : Nat} (ho : o.length = k / 32 + i) (h : val o + c * Wp (k / 32 + i) = val (a.take i) * 2 ^ k) :
    val (o ++ [c + shlo (wd a i) (k % 32)]) + shhi (wd a i) (k % 32) * Wp (k / 32 + (i + 1)) = val (a.take (i + 1)) * 2 ^ k := by
  have e := sh_eq (wd a i) (k % 32)
  generalize shlo (wd a i) (k % 32) = lo at *
  generalize shhi (wd a i) (k % 32) = hi at *
  rw [val_append, ho, val_one, val_take_succ', Nat.add_mul, ← h]
  have e2 : wd a i * Wp i * 2 ^ k = (lo + hi * 4294967296) * Wp (k / 32 + i) := by
    rw [e, two_pow_kq k, Nat.add_comm (k / 32), Wp_add, Nat.mul_assoc, Nat.mul_assoc]
    congr 1
    rw [← Nat.mul_assoc, Nat.mul_comm (Wp i), Nat.mul_assoc]
  rw [e2, Nat.add_mul, Nat.mul_assoc, ← Nat.add_assoc, Wp_succ, Nat.mul_add, Nat.mul_comm (Wp (k / 32 + i)) c, Nat.mul_comm (Wp (k / 32 + i)) lo]
  omega

/-- a word of the quotient by a power of 2 -/
def dnw (x y s : Nat) : Nat := (x + y * 4294967296) / 2 ^ s % 4294967296
theorem dnw_lt (x y s : Nat) : dnw x y s < 4294967296 := Nat.mod_lt _ (by omega)
theorem or_hi {x y : Nat} (h : x < 4294967296) : x ||| (y * 4294967296) = x + y * 4294967296 := by
  have := Nat.two_pow_add_eq_or_of_lt (i := 32) h y
  rw [Nat.or_comm, Nat.mul_comm y, ← this, Nat.add_comm]
theorem two_words {l : List Nat} (h : B32 l) (i : Nat) : wd l i + wd l (i + 1) * 4294967296 = val l / Wp i % (4294967296 * 4294967296) := by
  rw [wd_val h, wd_val h, Wp_succ, Nat.mul_comm 4294967296 (Wp i), ← Nat.div_div_eq_div_mul, Nat.mod_mul]
  omega
theorem dn_word {l : List Nat} (h : B32 l) (k j : Nat) : dnw (wd l (k / 32 + j)) (wd l (k / 32 + j + 1)) (k % 32) = val l / 2 ^ k / Wp j % 4294967296 := by
  unfold dnw
  rw [two_words h, two_pow_kq k, Wp_add]
  generalize val l = n
  have hs : k % 32 < 32 := Nat.mod_lt _ (by omega)
  generalize k % 32 = s at *
  have e1 : n / (2 ^ s * Wp (k / 32)) / Wp j = n / (Wp (k / 32) * Wp j) / 2 ^ s := by
    rw [Nat.div_div_eq_div_mul, Nat.div_div_eq_div_mul]; congr 1
    rw [Nat.mul_assoc, Nat.mul_comm]
  rw [e1]
  generalize n / (Wp (k / 32) * Wp j) = m
  have e2 : 4294967296 * 4294967296 = 2 ^ s * (2 ^ (32 - s) * 4294967296) := by
    rw [← Nat.mul_assoc, Nat.mul_comm (2 ^ s), ← pow_split (Nat.le_of_lt hs)]
  rw [e2, Nat.mod_mul_right_div_self, Nat.mod_mul_left_mod]
theorem val_words {o : List Nat} {r : Nat} (h : ∀ j, j < o.length → wd o j = r / Wp j % 4294967296) (k : Nat) (hk : k ≤ o.length) : val (o.take k) = r % Wp k := by
  induction k with
  | zero => rw [Wp_zero]; simp [val, Nat.mod_one]
  | succ k ih =>
    rw [val_take_succ', ih (by omega), h k (by omega), Wp_succ, Nat.mul_comm 4294967296, Nat.mod_mul, Nat.mul_comm (Wp k)]
theorem val_words_all {o : List Nat} {r : Nat} (h : ∀ j, j < o.length → wd o j = r / Wp j % 4294967296) (hr : r < Wp o.length) : val o = r := by
  have := val_words h o.length (Nat.le_refl _)
  rw [List.take_length, Nat.mod_eq_of_lt hr] at this
  exact this
theorem dn_lt {l : List Nat} (h : B32 l) (k : Nat) : val l / 2 ^ k < Wp (l.length - k / 32) := by
  have h1 := val_lt h
  rw [two_pow_kq k, ← Nat.div_div_eq_div_mul, Nat.div_div_eq_div_mul, Nat.mul_comm, ← Nat.div_div_eq_div_mul]
  refine Nat.lt_of_le_of_lt (Nat.div_le_self _ _) ?_
  by_cases hk : k / 32 ≤ l.length
  · rw [Nat.div_lt_iff_lt_mul (Wp_pos _), ← Wp_add, Nat.sub_add_cancel hk]; exact h1
  · rw [Nat.div_eq_of_lt (Nat.lt_of_lt_of_le h1 (Wp_mono (by omega)))]; exact Wp_pos _
theorem mulpow_cast (x s : Nat) : (x : Int) * 2 ^ s = ((x * 2 ^ s : Nat) : Int) := by simp
theorem shI {x s : Nat} (hx : x < 4294967296) (hs : s < 32) : 0 ≤ (x : Int) * 2 ^ s ∧ (x : Int) * 2 ^ s ≤ 9223372034707292160 := by
  rw [mulpow_cast]
  have h1 := Nat.mul_le_mul (show x ≤ 4294967295 by omega) (pow_le32 hs)
  generalize x * 2 ^ s = p at *
  omega
theorem shlo_int (x s : Nat) : ((x : Int) * 2 ^ s) % 4294967296 = (shlo x s : Int) := by
  rw [mulpow_cast]; unfold shlo; generalize x * 2 ^ s = p; omega
theorem shhi_int (x s : Nat) : ((x : Int) * 2 ^ s) / 4294967296 = (shhi x s : Int) := by
  rw [mulpow_cast]; unfold shhi; generalize x * 2 ^ s = p; omega

def upv (c x s : Nat) : Nat := c + x * 2 ^ s
def uplo (c x s : Nat) : Nat := c + shlo x s
theorem upv_or {c x s : Nat} (h : c < 2 ^ s) : c ||| (x * 2 ^ s) = upv c x s := by
  have := Nat.two_pow_add_eq_or_of_lt h x
  unfold upv
  rw [Nat.or_comm, Nat.mul_comm x, ← this, Nat.add_comm]
theorem uplo_lt {c x s : Nat} (hs : s < 32) (h : c < 2 ^ s) : uplo c x s < 4294967296 := (or_shlo hs h).2
theorem upv_lo {c x s : Nat} (hs : s < 32) (h : c < 2 ^ s) : (upv c x s : Int) % 4294967296 = (uplo c x s : Int) := by
  have h1 := uplo_lt (x := x) hs h
  have h2 := sh_eq x s
  unfold upv; unfold uplo at *
  rw [← h2]; omega
theorem upv_hi {c x s : Nat} (hs : s < 32) (h : c < 2 ^ s) : (upv c x s : Int) / 4294967296 = (shhi x s : Int) := by
  have h1 := uplo_lt (x := x) hs h
  have h2 := sh_eq x s
  unfold upv; unfold uplo at *
  rw [← h2]; omega
theorem shhi_zero (s : Nat) : shhi 0 s = 0 := by unfold shhi; simp
def x2 (x y : Nat) : Nat := x + y * 4294967296
theorem x2_lt {x y : Nat} (hx : x < 4294967296) (hy : y < 4294967296) : x2 x y < 18446744073709551616 := by unfold x2; omega
theorem div_cast (x s : Nat) : (x : Int) / 2 ^ s = ((x / 2 ^ s : Nat) : Int) := by simp
theorem dnw_int (x y s : Nat) : ((x2 x y : Int) / 2 ^ s) % 4294967296 = (dnw x y s : Int) := by
  rw [div_cast]; unfold dnw x2; generalize (x + y * 4294967296) / 2 ^ s = p; omega
theorem dnw_int0 (x s : Nat) : ((x : Int) / 2 ^ s) % 4294967296 = (dnw x 0 s : Int) := by
  rw [div_cast]; unfold dnw; rw [Nat.zero_mul, Nat.add_zero]; generalize x / 2 ^ s = p; omega
/-- the words of a quotient by a power of 2 -/
theorem down_all {a o : List Nat} {k : Nat} (ha : B32 a) (hl : o.length = a.length - k / 32) (h : ∀ j, j < o.length → wd o j = dnw (wd a (k / 32 + j)) (wd a (k / 32 + j + 1)) (k % 32)) : val o = val a / 2 ^ k :=
  val_words_all (fun j hj => by rw [h j hj, dn_word ha]) (by rw [hl]; exact dn_lt ha k)
end Go.Proofs.Ytkjfpaommbjgbaa
namespace Go.Proofs.Ytkjfpaommbjgbaa

theorem val_drop {l : List Nat} {k : Nat} (h : k < l.length) : val (l.drop k) = wd l k + 4294967296 * val (l.drop (k + 1)) := by
  rw [drop_wd h]; rfl
theorem val_drop_out {l : List Nat} {k : Nat} (h : l.length ≤ k) : val (l.drop k) = 0 := by rw [List.drop_of_length_le h]; rfl
theorem val_drop_set {o : List Nat} {k j x : Nat} (h : k < j) : val ((o.set k x).drop j) = val (o.drop j) := by rw [List.drop_set_of_lt h]

/-! ### over one word -/
theorem short_step {a o : List Nat} {k d r : Nat} (_hd : 0 < d) (hk : k < a.length) (ho : o.length = a.length) (h : val (a.drop (k + 1)) = val (o.drop (k + 1)) * d + r) :
    val (a.drop k) = val ((o.set k ((r * 4294967296 + wd a k) / d)).drop k) * d + (r * 4294967296 + wd a k) % d := by
  rw [val_drop hk, val_drop (l := o.set k _) (k := k) (by rw [List.length_set]; omega), wd_set_eq (by omega), val_drop_set (by omega), h]
  have e := Nat.div_add_mod (r * 4294967296 + wd a k) d
  generalize (r * 4294967296 + wd a k) / d = q at *
  generalize (r * 4294967296 + wd a k) % d = m at *
  rw [Nat.add_mul, Nat.mul_comm q d, Nat.mul_assoc]
  generalize val (o.drop (k + 1)) * d = x at *
  omega
theorem short_lt {r d x : Nat} (hd : 0 < d) (hr : r < d) (hx : x < 4294967296) : (r * 4294967296 + x) / d < 4294967296 := by
  rw [Nat.div_lt_iff_lt_mul hd]
  have := Nat.mul_le_mul_right 4294967296 (show r + 1 ≤ d by omega)
  rw [Nat.add_mul] at this
  omega
theorem short_end {n o d r : Nat} (hd : 0 < d) (hr : r < d) (h : n = o * d + r) : o = n / d ∧ r = n % d := by
  subst h
  rw [Nat.mul_comm, Nat.mul_add_div hd, Nat.div_eq_of_lt hr, Nat.mul_add_mod, Nat.mod_eq_of_lt hr]
  exact ⟨by omega, rfl⟩

/-! ### the estimate of a digit. X: what is left from the place j on (n + 1 words); d: the divisor, of n words; v1, v2: its two highest; top, u2: X's three highest -/
theorem est_start {X d top v1 P : Nat} (hX : X < (top + 1) * P) (hd : v1 * P ≤ d) (hv : 0 < v1) : X < (top / v1 + 1) * d := by
  have h1 : top + 1 ≤ (top / v1 + 1) * v1 := by
    have := Nat.div_add_mod top v1
    have := Nat.mod_lt top hv
    rw [Nat.add_mul, Nat.mul_comm (top / v1)]; omega
  calc X < (top + 1) * P := hX
    _ ≤ (top / v1 + 1) * v1 * P := Nat.mul_le_mul_right _ h1
    _ = (top / v1 + 1) * (v1 * P) := by rw [Nat.mul_assoc]
    _ ≤ (top / v1 + 1) * d := Nat.mul_le_mul_left _ hd
/-- a digit that is too large by the test of the second word -/
theorem est_dec {X d top rest t v1 v2 u2 P : Nat} (hX : X < (top * 4294967296 + u2 + 1) * P) (hd : (v1 * 4294967296 + v2) * P ≤ d) (hr : t * v1 + rest = top) (h : rest * 4294967296 + u2 < t * v2) : X < t * d := by
  have h1 : top * 4294967296 + u2 + 1 ≤ t * (v1 * 4294967296 + v2) := by
    rw [Nat.mul_add, ← Nat.mul_assoc, ← hr, Nat.add_mul]; omega
  calc X < (top * 4294967296 + u2 + 1) * P := hX
    _ ≤ t * (v1 * 4294967296 + v2) * P := Nat.mul_le_mul_right _ h1
    _ = t * ((v1 * 4294967296 + v2) * P) := by rw [Nat.mul_assoc]
    _ ≤ t * d := Nat.mul_le_mul_left _ hd
/-- a digit that passes the test is at most one too large -/
theorem est_end {X d top rest t v1 v2 u2 P : Nat} (hX : (top * 4294967296 + u2) * P ≤ X) (hd : d ≤ (v1 * 4294967296 + v2 + 1) * P) (hr : t * v1 + rest = top) (ht : t ≤ 4294967295) (hv1 : 1 ≤ v1) (h : t * v2 ≤ rest * 4294967296 + u2) : (t - 1) * d ≤ X := by
  have h1 : (t - 1) * (v1 * 4294967296 + v2 + 1) ≤ top * 4294967296 + u2 := by
    rcases Nat.eq_zero_or_pos t with h0 | h0
    · subst h0; simp
    · have e : t * (v1 * 4294967296 + v2) ≤ top * 4294967296 + u2 := by
        rw [Nat.mul_add, ← Nat.mul_assoc, ← hr, Nat.add_mul]; omega
      obtain ⟨s, rfl⟩ : ∃ s, t = s + 1 := ⟨t - 1, by omega⟩
      rw [Nat.add_sub_cancel, Nat.mul_add, Nat.mul_one]
      rw [Nat.add_mul, Nat.one_mul] at e
      have : 1 * 4294967296 ≤ v1 * 4294967296 := Nat.mul_le_mul_right _ hv1
      omega
  calc (t - 1) * d ≤ (t - 1) * ((v1 * 4294967296 + v2 + 1) * P) := Nat.mul_le_mul_left _ hd
    _ = (t - 1) * (v1 * 4294967296 + v2 + 1) * P := by rw [Nat.mul_assoc]
    _ ≤ (top * 4294967296 + u2) * P := Nat.mul_le_mul_right _ h1
    _ ≤ X := hX
/-- where the rest has passed a word the test is passed -/
theorem est_brk {top rest t v1 v2 u2 : Nat} (hr : t * v1 + rest = top) (htop : top ≤ v1 * 4294967296 + 4294967295) (_hv1 : 0 < v1) (hv2 : v2 < 4294967296) (hb : 4294967296 ≤ rest) : t ≤ 4294967295 ∧ t * v2 ≤ rest * 4294967296 + u2 := by
  have h1 : t * v1 < 4294967296 * v1 := by rw [Nat.mul_comm 4294967296]; omega
  have h2 : t < 4294967296 := Nat.lt_of_mul_lt_mul_right h1
  refine ⟨by omega, ?_⟩
  have h3 : t * v2 ≤ 4294967296 * 4294967296 := Nat.mul_le_mul (by omega) (by omega)
  have h4 : 4294967296 * 4294967296 ≤ rest * 4294967296 := Nat.mul_le_mul_right _ hb
  omega

/-! ### a digit times the divisor, taken away -/
def msC (c t x : Nat) : Nat := c + t * x
/-- the word that is left -/
def msF (u c b : Nat) : Nat := (u + 18446744073709551616 - c % 4294967296 - b) % 4294967296
def msB (u c b : Nat) : Nat := if u < c % 4294967296 + b then 1 else 0
theorem ms_eq {u c b : Nat} (hu : u < 4294967296) (hb : b ≤ 1) : msF u c b + c + b = u + 4294967296 * (c / 4294967296 + msB u c b) := by
  unfold msF msB; split <;> omega
theorem ms_step {u u' d : List Nat} {i j t c b : Nat} (hk : i + j < u'.length) (hu : B32 u') (hb : b ≤ 1) (h : val u' + t * val (d.take i) * Wp j = val u + (c + b) * Wp (i + j)) :
    val (u'.set (i + j) (msF (wd u' (i + j)) (msC c t (wd d i)) b)) + t * val (d.take (i + 1)) * Wp j = val u + (msC c t (wd d i) / 4294967296 + msB (wd u' (i + j)) (msC c t (wd d i)) b) * Wp (i + 1 + j) := by
  have h1 := val_set (msF (wd u' (i + j)) (msC c t (wd d i)) b) hk
  have e := ms_eq (c := msC c t (wd d i)) (wd_lt hu (i + j)) hb
  have e0 : msC c t (wd d i) = c + t * wd d i := rfl
  generalize msF (wd u' (i + j)) (msC c t (wd d i)) b = f at *
  generalize msB (wd u' (i + j)) (msC c t (wd d i)) b = g at *
  generalize msC c t (wd d i) = C at *
  rw [val_take_succ', Nat.mul_add, Nat.add_mul, show i + 1 + j = (i + j) + 1 by omega, Wp_succ]
  have e2 : (f + C + b) * Wp (i + j) = (wd u' (i + j) + 4294967296 * (C / 4294967296 + g)) * Wp (i + j) := by rw [e]
  rw [e0, Nat.add_mul, Nat.add_mul, Nat.add_mul, Nat.add_mul (wd u' (i + j))] at e2
  rw [e0]
  have e3 : t * (wd d i * Wp i) * Wp j = t * wd d i * Wp (i + j) := by rw [Wp_add, Nat.mul_assoc, Nat.mul_assoc, Nat.mul_assoc]
  have e4 : ((c + t * wd d i) / 4294967296 + g) * (4294967296 * Wp (i + j)) = 4294967296 * ((c + t * wd d i) / 4294967296 + g) * Wp (i + j) := by rw [← Nat.mul_assoc, Nat.mul_comm _ 4294967296]
  rw [e3, e4]
  rw [Nat.add_mul] at h
  generalize 4294967296 * ((c + t * wd d i) / 4294967296 + g) * Wp (i + j) = Z at *
  generalize t * wd d i * Wp (i + j) = Y at *
  generalize t * val (d.take i) * Wp j = V at *
  omega
end Go.Proofs.Ytkjfpaommbjgbaa
namespace Go.Proofs.Ytkjfpaommbjgbaa

/-- a digit's byte -/
def dch (r : Nat) : UInt8 := if r < 10 then UInt8.ofNat (48 + r) else UInt8.ofNat (87 + r)
theorem dch_nat {r : Nat} (h : r < 36) : (dch r).toNat = if r < 10 then 48 + r else 87 + r := by
  unfold dch
  split <;> simp <;> omega
/-- the digits from the lowest up -/
def rdg (b n : Nat) : List UInt8 := if _h : n = 0 ∨ b < 2 then [] else dch (n % b) :: rdg b (n / b)
termination_by n
decreasing_by exact Nat.div_lt_self (by omega) (by omega)
theorem rdg_zero (b : Nat) : rdg b 0 = [] := by rw [rdg]; simp
theorem rdg_pos {b n : Nat} (hb : 2 ≤ b) (h : n ≠ 0) : rdg b n = dch (n % b) :: rdg b (n / b) := by rw [rdg]; simp [h, show ¬ b < 2 by omega]
/-- a number's text -/
def txt (b n : Nat) : List UInt8 := if n = 0 then [48] else (rdg b n).reverse
def rtx (b n : Nat) : List UInt8 := if n = 0 then [48] else rdg b n
theorem rtx_rev (b n : Nat) : (rtx b n).reverse = txt b n := by unfold rtx txt; split <;> simp
theorem rtx_first {b n : Nat} (hb : 2 ≤ b) : rtx b n = dch (n % b) :: rdg b (n / b) := by
  unfold rtx
  split
  · rename_i h; subst h; simp [rdg_zero, dch]
  · rename_i h; exact rdg_pos hb h
theorem rdg_len {b : Nat} (hb : 2 ≤ b) (n k : Nat) (h : n < 2 ^ k) : (rdg b n).length ≤ k := by
  induction k generalizing n with
  | zero => have : n = 0 := by simpa using h
            subst this; simp [rdg_zero]
  | succ k ih =>
    by_cases h0 : n = 0
    · subst h0; simp [rdg_zero]
    · rw [rdg_pos hb h0, List.length_cons]
      have h1 : n / b ≤ n / 2 := Nat.div_le_div_left hb (by omega)
      have := ih (n / b) (by rw [Nat.pow_succ] at h; omega)
      omega

/-- a byte's value as a digit -/
def dval (b : Nat) : Nat := if 48 ≤ b ∧ b ≤ 57 then b - 48 else if 97 ≤ b ∧ b ≤ 122 then b - 87 else if 65 ≤ b ∧ b ≤ 90 then b - 55 else 99
theorem dval_le (b : Nat) : dval b ≤ 99 := by unfold dval; split <;> (try split) <;> (try split) <;> omega
theorem dval_36 (b : Nat) : dval b < 36 ∨ dval b = 99 := by unfold dval; split <;> (try split) <;> (try split) <;> omega
theorem dval_dch {r : Nat} (h : r < 36) : dval (dch r).toNat = r := by
  rw [dch_nat h]; unfold dval; split <;> (repeat' split) <;> omega
end Go.Proofs.Ytkjfpaommbjgbaa
namespace Go.Proofs.Ytkjfpaommbjgbaa

/-- the byte at a place, as a number -/
def byt (l : List UInt8) (k : Nat) : Nat := (l.getD k 0).toNat
theorem byt_lt (l : List UInt8) (k : Nat) : byt l k < 256 := UInt8.toNat_lt _
/-- the number that digits are, behind acc -/
def rdv (b acc : Nat) (l : List UInt8) : Nat := l.foldl (fun n c => n * b + dval c.toNat) acc
theorem rdv_take {b : Nat} {l : List UInt8} {k : Nat} (h : k < l.length) : rdv b 0 (l.take (k + 1)) = rdv b 0 (l.take k) * b + dval (byt l k) := by
  unfold rdv byt
  rw [List.take_succ_eq_append_getElem h, List.foldl_append]
  simp [List.getD_eq_getElem?_getD, h]
theorem rdv_mono {b acc : Nat} (hb : 1 ≤ b) (l : List UInt8) : acc ≤ rdv b acc l := by
  induction l generalizing acc with
  | nil => exact Nat.le_refl _
  | cons c l ih =>
    have h1 : acc * 1 ≤ acc * b := Nat.mul_le_mul_left _ hb
    have h2 := ih (acc := acc * b + dval c.toNat)
    show acc ≤ rdv b (acc * b + dval c.toNat) l
    omega
theorem rdv_le {b : Nat} (hb : 1 ≤ b) (l : List UInt8) (k : Nat) : rdv b 0 (l.take k) ≤ rdv b 0 l := by
  conv => rhs; rw [← List.take_append_drop k l]
  unfold rdv
  rw [List.foldl_append]
  exact rdv_mono hb _
theorem rdv_rdg {b : Nat} (hb : 2 ≤ b) (hb2 : b ≤ 36) (n : Nat) : rdv b 0 (rdg b n).reverse = n ∧ ∀ c ∈ rdg b n, dval c.toNat < b := by
  induction n using Nat.strongRecOn with
  | ind n ih =>
    by_cases h0 : n = 0
    · subst h0; rw [rdg_zero]; exact ⟨rfl, fun c hc => by cases hc⟩
    · have hm : n % b < b := Nat.mod_lt _ (by omega)
      obtain ⟨i1, i2⟩ := ih (n / b) (Nat.div_lt_self (by omega) (by omega))
      rw [rdg_pos hb h0]
      constructor
      · rw [List.reverse_cons]
        unfold rdv at *
        rw [List.foldl_append, i1]
        simp only [List.foldl_cons, List.foldl_nil]
        rw [dval_dch (by omega), Nat.mul_comm]
        exact Nat.div_add_mod n b
      · intro c hc
        rcases List.mem_cons.1 hc with rfl | hc
        · rw [dval_dch (by omega)]; exact hm
        · exact i2 c hc
theorem rdv_txt {b : Nat} (hb : 2 ≤ b) (hb2 : b ≤ 36) (n : Nat) : rdv b 0 (txt b n) = n ∧ (∀ c ∈ txt b n, dval c.toNat < b) ∧ txt b n ≠ [] := by
  unfold txt
  split
  · rename_i h; subst h
    refine ⟨by show 0 * b + dval (48 : UInt8).toNat = 0; rw [Nat.zero_mul]; decide, fun c hc => ?_, by simp⟩
    rw [List.mem_singleton.1 hc]
    have : dval (48 : UInt8).toNat = 0 := by decide
    rw [this]; omega
  · rename_i h
    obtain ⟨h1, h2⟩ := rdv_rdg hb hb2 n
    refine ⟨h1, fun c hc => h2 c (List.mem_reverse.1 hc), ?_⟩
    rw [rdg_pos hb h]; simp
/-- all bytes are digits -/
def okd (b : Nat) (l : List UInt8) : Bool := l.all fun c => decide (dval c.toNat < b)
theorem okd_take {b : Nat} {l : List UInt8} {k : Nat} (h : k < l.length) : okd b (l.take (k + 1)) = (okd b (l.take k) && decide (dval (byt l k) < b)) := by
  unfold okd byt
  rw [List.take_succ_eq_append_getElem h, List.all_append]
  simp [List.getD_eq_getElem?_getD, h]
theorem okd_false {b : Nat} {l : List UInt8} {k : Nat} (h : k < l.length) (hd : ¬ dval (byt l k) < b) : okd b l = false := by
  unfold okd
  rw [List.all_eq_false]
  refine ⟨l[k], List.getElem_mem h, ?_⟩
  unfold byt at hd
  simp [List.getD_eq_getElem?_getD, h] at hd
  simp; omega

/-! ### times a digit, and a digit more -/
def mcf (c x b : Nat) : Nat := (c + x * b) % 4294967296
def mcc (c x b : Nat) : Nat := (c + x * b) / 4294967296
theorem mcf_lt (c x b : Nat) : mcf c x b < 4294967296 := Nat.mod_lt _ (by omega)
theorem mcc_lt {c x b : Nat} (hc : c ≤ 99) (hx : x < 4294967296) (hb : b ≤ 36) : mcc c x b ≤ 99 := by
  have := Nat.mul_le_mul (show x ≤ 4294967295 by omega) hb
  unfold mcc; omega
theorem mcI {c x b : Nat} (_hc : c ≤ 99) (hx : x < 4294967296) (hb : b ≤ 36) : 0 ≤ (x : Int) * (b : Int) ∧ (x : Int) * (b : Int) ≤ 154618822620 := by
  have h := Nat.mul_le_mul (show x ≤ 4294967295 by omega) hb
  rw [← Int.natCast_mul]
  generalize x * b = p at *
  omega
theorem mcf_int (c x b : Nat) : ((c : Int) + (x : Int) * (b : Int)) % 4294967296 = (mcf c x b : Int) := by
  unfold mcf; rw [← Int.natCast_mul]; generalize x * b = p; omega
theorem mcc_int (c x b : Nat) : ((c : Int) + (x : Int) * (b : Int)) / 4294967296 = (mcc c x b : Int) := by
  unfold mcc; rw [← Int.natCast_mul]; generalize x * b = p; omega
/-- as far as the place j the words are turned -/
def Mul1 (l o : List Nat) (j b d q : Nat) : Prop := o.length = l.length ∧ (∀ t, j ≤ t → wd o t = wd l t) ∧ val (o.take j) + q * Wp j = d + val (l.take j) * b
theorem Mul1_step {l o : List Nat} {j b d q : Nat} (hj : j < o.length) (h : Mul1 l o j b d q) : Mul1 l (o.set j (mcf q (wd o j) b)) (j + 1) b d (mcc q (wd o j) b) := by
  refine ⟨by rw [List.length_set]; exact h.1, fun t ht => by rw [wd_set_ne (by omega)]; exact h.2.1 t (by omega), ?_⟩
  have h3 := h.2.2
  have hw := h.2.1 j (Nat.le_refl _)
  rw [val_take_set hj, val_take_succ' l, Wp_succ, ← hw]
  have e : mcf q (wd o j) b + mcc q (wd o j) b * 4294967296 = q + wd o j * b := by unfold mcf mcc; omega
  generalize mcf q (wd o j) b = f at *
  generalize mcc q (wd o j) b = g at *
  have e2 : (f + g * 4294967296) * Wp j = (q + wd o j * b) * Wp j := by rw [e]
  rw [Nat.add_mul, Nat.add_mul] at e2
  have e3 : g * (4294967296 * Wp j) = g * 4294967296 * Wp j := by rw [Nat.mul_assoc]
  have e4 : (val (l.take j) + wd o j * Wp j) * b = val (l.take j) * b + wd o j * b * Wp j := by
    rw [Nat.add_mul]; congr 1; rw [Nat.mul_assoc, Nat.mul_assoc, Nat.mul_comm (Wp j)]
  rw [e3, e4]
  omega
theorem Mul1_end {N b d q : Nat} {o : List Nat} (hb : 1 ≤ b) (hq : q < 4294967296) (hB : B32 o) (h : Mul1 (digs N) o (digs N).length b d q) :
    (q = 0 → o = digs (N * b + d)) ∧ (q ≠ 0 → o ++ [q] = digs (N * b + d)) := by
  have h3 := h.2.2
  have hl := h.1
  rw [List.take_length, val_digs, val_take_all (by omega)] at h3
  constructor
  · intro h0
    subst h0
    rw [Nat.zero_mul, Nat.add_zero] at h3
    have h4 : val o = N * b + d := by omega
    rw [← h4]
    refine (digs_val hB ?_).symm
    by_cases hz : o.length = 0
    · left; exact List.eq_nil_of_length_eq_zero hz
    · right
      intro hw
      obtain ⟨j, hj⟩ : ∃ j, o.length = j + 1 := ⟨o.length - 1, by omega⟩
      rw [hj, Nat.add_sub_cancel] at hw
      have h5 := val_take_succ (l := o) (k := j) (by omega)
      rw [← hj, List.take_length, hw] at h5
      have h6 := val_take_lt hB j
      have h7 : Wp j ≤ N := digs_len_lt.1 (by omega)
      have h8 : N * 1 ≤ N * b := Nat.mul_le_mul_left _ hb
      omega
  · intro h0
    have h4 : val (o ++ [q]) = N * b + d := by rw [val_append, val_one, Nat.mul_comm, hl]; omega
    rw [← h4]
    refine (digs_val (B32_append hB (B32_cons hq B32_nil)) ?_).symm
    right
    rw [List.length_append, List.length_singleton, Nat.add_sub_cancel]
    have := wd_append_right (a := o) (b := [q]) (k := 0)
    rw [Nat.add_zero, wd_zero] at this
    rw [this]; exact h0
end Go.Proofs.Ytkjfpaommbjgbaa
namespace Go.Proofs.Ytkjfpaommbjgbaa

/-- the state of the loop: what is left (u) and the quotient's words (q), behind the places from k on -/
def Ov (U : Nat) (u d q : List Nat) (k : Nat) : Prop :=
  val u + val d * val q = U ∧ val (u.drop k) < val d ∧ ∀ t, t < k → wd q t = 0

theorem val_take_drop (l : List Nat) (k : Nat) (h : k ≤ l.length) : val l = val (l.take k) + Wp k * val (l.drop k) := by
  have := val_split l k; rwa [Nat.min_eq_left h] at this
theorem take_eq_of_wd {a b : List Nat} {k : Nat} (hl : a.length = b.length) (h : ∀ t, t < k → wd a t = wd b t) : a.take k = b.take k := by
  refine wd_ext (by rw [List.length_take, List.length_take, hl]) fun t ht => ?_
  rw [List.length_take] at ht
  rw [wd_take (by omega), wd_take (by omega)]
  exact h t (by omega)

/-- what is left from a place on is less than a word times the divisor -/
theorem Ov_lt {U : Nat} {u d q : List Nat} {j : Nat} (hu : B32 u) (hj : j < u.length) (h : Ov U u d q (j + 1)) : val (u.drop j) < 4294967296 * val d := by
  rw [val_drop hj]
  have h1 := h.2.1
  have h2 := wd_lt hu j
  have := Nat.mul_le_mul_left 4294967296 (show val (u.drop (j + 1)) + 1 ≤ val d by omega)
  omega

/-- behind a digit: the words below the place are as they were, and what is left from it on is less than the divisor -/
theorem Ov_step {U : Nat} {u u' d q : List Nat} {j t : Nat} (hj : j < u.length) (hq : j < q.length) (hl : u'.length = u.length) (ht : ∀ i, i < j → wd u' i = wd u i)
    (h : Ov U u d q (j + 1)) (hv : val u' + t * val d * Wp j = val u) (hX : val (u.drop j) < (t + 1) * val d) : Ov U u' d (q.set j t) j := by
  have h1 := val_set (o := q) (k := j) t hq
  rw [h.2.2 j (by omega), Nat.zero_mul, Nat.add_zero] at h1
  refine ⟨?_, ?_, fun i hi => ?_⟩
  · rw [h1, Nat.mul_add, ← h.1, ← hv]
    have : val d * (t * Wp j) = t * val d * Wp j := by rw [← Nat.mul_assoc, Nat.mul_comm (val d) t]
    omega
  · have e1 := val_take_drop u j (by omega)
    have e2 := val_take_drop u' j (by omega)
    rw [take_eq_of_wd hl ht] at e2
    have hp := Wp_pos j
    have e3 : Wp j * (val (u'.drop j) + t * val d) = Wp j * val (u.drop j) := by
      rw [Nat.mul_add, Nat.mul_comm (Wp j) (t * val d)]; omega
    have e4 := Nat.eq_of_mul_eq_mul_left hp e3
    rw [Nat.add_mul, Nat.one_mul] at hX
    omega
  · rw [wd_set_ne (by omega)]; exact h.2.2 i (by omega)
theorem Ov_end {U : Nat} {u d q : List Nat} (h : Ov U u d q 0) : val q = U / val d ∧ val u = U % val d := by
  have h2 := h.2.1
  rw [List.drop_zero] at h2
  have h1 := h.1
  have hd : 0 < val d := by omega
  exact short_end hd h2 (by rw [Nat.mul_comm]; omega)

/-! ### the digit is taken away -/
def Ms (u d u' : List Nat) (j t i c b : Nat) : Prop :=
  u'.length = u.length ∧ (∀ k, k < j → wd u' k = wd u k) ∧ (∀ k, i + j ≤ k → wd u' k = wd u k) ∧ val u' + t * val (d.take i) * Wp j = val u + (c + b) * Wp (i + j)
theorem Ms_start (u d : List Nat) (j t : Nat) : Ms u d u j t 0 0 0 := ⟨rfl, fun _ _ => rfl, fun _ _ => rfl, by simp [val]⟩
theorem Ms_step {u d u' : List Nat} {j t i c b : Nat} (hk : i + j < u.length) (hu : B32 u') (hb : b ≤ 1) (h : Ms u d u' j t i c b) :
    Ms u d (u'.set (i + j) (msF (wd u' (i + j)) (msC c t (wd d i)) b)) j t (i + 1) (msC c t (wd d i) / 4294967296) (msB (wd u' (i + j)) (msC c t (wd d i)) b) := by
  refine ⟨by rw [List.length_set]; exact h.1, fun k hk => by rw [wd_set_ne (by omega)]; exact h.2.1 k hk, fun k hk => by rw [wd_set_ne (by omega)]; exact h.2.2.1 k (by omega), ?_⟩
  exact ms_step (by rw [h.1]; exact hk) hu hb h.2.2.2
theorem msC_lt {c t x : Nat} (hc : c < 4294967296) (ht : t ≤ 4294967295) (hx : x < 4294967296) : msC c t x ≤ 18446744069414584320 ∧ msC c t x / 4294967296 < 4294967296 := by
  have := Nat.mul_le_mul ht (show x ≤ 4294967295 by omega)
  unfold msC; omega
theorem msF_lt (u c b : Nat) : msF u c b < 4294967296 := Nat.mod_lt _ (by omega)
theorem msB_le (u c b : Nat) : msB u c b ≤ 1 := by unfold msB; split <;> omega
/-- the highest word: nothing is owed -/
theorem Ms_no {u d u' : List Nat} {j t n c b : Nat} (hn : d.length = n) (hk : n + j < u.length) (h : Ms u d u' j t n c b) (hc : c + b ≤ wd u' (n + j)) :
    val (u'.set (n + j) (wd u' (n + j) - (c + b))) + t * val d * Wp j = val u := by
  have h1 := val_set (o := u') (k := n + j) (wd u' (n + j) - (c + b)) (by rw [h.1]; exact hk)
  have h2 := h.2.2.2
  rw [← hn, List.take_length, hn] at h2
  have e : wd u' (n + j) * Wp (n + j) = (wd u' (n + j) - (c + b)) * Wp (n + j) + (c + b) * Wp (n + j) := by rw [← Nat.add_mul]; congr 1; omega
  omega
/-- .. or a word above is owed -/
theorem Ms_yes {u d u' : List Nat} {j t n c b : Nat} (hn : d.length = n) (hk : n + j < u.length) (h : Ms u d u' j t n c b) (_hc : wd u' (n + j) < c + b) (hw : c + b ≤ 4294967296) :
    val (u'.set (n + j) (wd u' (n + j) + 4294967296 - (c + b))) + t * val d * Wp j = val u + Wp (n + j + 1) := by
  have h1 := val_set (o := u') (k := n + j) (wd u' (n + j) + 4294967296 - (c + b)) (by rw [h.1]; exact hk)
  have h2 := h.2.2.2
  rw [← hn, List.take_length, hn] at h2
  have e : wd u' (n + j) * Wp (n + j) + 4294967296 * Wp (n + j) = (wd u' (n + j) + 4294967296 - (c + b)) * Wp (n + j) + (c + b) * Wp (n + j) := by rw [← Nat.add_mul, ← Nat.add_mul]; congr 1; omega
  rw [Wp_succ]
  omega

/-! ### one digit too many is put back -/
def Ab (u d u' : List Nat) (j i c : Nat) : Prop :=
  u'.length = u.length ∧ (∀ k, k < j → wd u' k = wd u k) ∧ (∀ k, i + j ≤ k → wd u' k = wd u k) ∧ val u' + c * Wp (i + j) = val u + val (d.take i) * Wp j
theorem Ab_start (u d : List Nat) (j : Nat) : Ab u d u j 0 0 := ⟨rfl, fun _ _ => rfl, fun _ _ => rfl, by simp [val]⟩
theorem Ab_step {u d u' : List Nat} {j i c : Nat} (hk : i + j < u.length) (h : Ab u d u' j i c) :
    Ab u d (u'.set (i + j) (addf (wd u' (i + j)) (wd d i) c)) j (i + 1) (addc (wd u' (i + j)) (wd d i) c) := by
  refine ⟨by rw [List.length_set]; exact h.1, fun k hk => by rw [wd_set_ne (by omega)]; exact h.2.1 k hk, fun k hk => by rw [wd_set_ne (by omega)]; exact h.2.2.1 k (by omega), ?_⟩
  have h1 := val_set (o := u') (k := i + j) (addf (wd u' (i + j)) (wd d i) c) (by rw [h.1]; exact hk)
  have h3 := h.2.2.2
  have e := add_eq (wd u' (i + j)) (wd d i) c
  generalize addf (wd u' (i + j)) (wd d i) c = f at *
  generalize addc (wd u' (i + j)) (wd d i) c = g at *
  have e2 : (f + g * 4294967296) * Wp (i + j) = (wd u' (i + j) + wd d i + c) * Wp (i + j) := by rw [e]
  rw [Nat.add_mul, Nat.add_mul, Nat.add_mul] at e2
  rw [val_take_succ', Nat.add_mul, show i + 1 + j = (i + j) + 1 by omega, Wp_succ]
  have e3 : g * (4294967296 * Wp (i + j)) = g * 4294967296 * Wp (i + j) := by rw [Nat.mul_assoc]
  have e4 : wd d i * Wp i * Wp j = wd d i * Wp (i + j) := by rw [Wp_add, Nat.mul_assoc]
  rw [e3, e4]
  omega
/-- the highest word takes the carry and falls over -/
theorem Ab_end {u d u' : List Nat} {j n c V : Nat} (hB : B32 u') (hn : d.length = n) (hk : n + j < u.length) (hz : ∀ k, n + j + 1 ≤ k → wd u k = 0) (h : Ab u d u' j n c) (hc : c ≤ 1)
    (hV : val u + val d * Wp j = V + Wp (n + j + 1)) : val (u'.set (n + j) ((wd u' (n + j) + c) % 4294967296)) = V := by
  have h1 := val_set (o := u') (k := n + j) ((wd u' (n + j) + c) % 4294967296) (by rw [h.1]; exact hk)
  have h2 := h.2.2.2
  rw [← hn, List.take_length, hn] at h2
  have hx := wd_lt hB (n + j)
  -- above the highest word there is nothing
  have h3 := val_take_drop u' (n + j + 1) (by rw [h.1]; omega)
  have hz2 : val (u'.drop (n + j + 1)) = 0 := by
    have : u'.drop (n + j + 1) = List.replicate (u'.length - (n + j + 1)) 0 := by
      refine wd_ext (by simp) fun k hk => ?_
      rw [wd_replicate, wd_drop, h.2.2.1 _ (by omega), hz _ (by omega)]
    rw [this, val_replicate]
  rw [hz2, Nat.mul_zero, Nat.add_zero] at h3
  have h4 := val_take_lt hB (n + j + 1)
  rw [val_take_succ'] at h3
  have h5 := val_take_lt hB (n + j)
  rw [Wp_succ] at hV h4
  by_cases ho : wd u' (n + j) + c < 4294967296
  · exfalso
    have e : (wd u' (n + j) + c) * Wp (n + j) ≤ 4294967295 * Wp (n + j) := Nat.mul_le_mul_right _ (by omega)
    rw [Nat.add_mul] at e
    omega
  · have e0 : wd u' (n + j) + c = 4294967296 := by omega
    rw [e0, Nat.mod_self, Nat.zero_mul, Nat.add_zero] at h1
    have e : (wd u' (n + j) + c) * Wp (n + j) = 4294967296 * Wp (n + j) := by rw [e0]
    rw [Nat.add_mul] at e
    rw [e0, Nat.mod_self]
    omega
end Go.Proofs.Ytkjfpaommbjgbaa
namespace Go.Proofs.Ytkjfpaommbjgbaa

theorem wd_zero_of {l : List Nat} {k t : Nat} (hb : B32 l) (h : val l < Wp k) (ht : k ≤ t) : wd l t = 0 := by
  rw [wd_val hb, Nat.div_eq_of_lt (Nat.lt_of_lt_of_le h (Wp_mono ht))]
theorem val_take_of {l : List Nat} {k : Nat} (hb : B32 l) (h : val l < Wp k) : val (l.take k) = val l := by
  by_cases hk : l.length ≤ k
  · exact val_take_all hk
  · have h1 := val_take_drop l k (by omega)
    have h2 : val (l.drop k) = 0 := by
      have : l.drop k = List.replicate (l.length - k) 0 := by
        refine wd_ext (by simp) fun t ht => ?_
        rw [wd_replicate, wd_drop, wd_zero_of hb h (by omega)]
      rw [this, val_replicate]
    rw [h2] at h1; omega
/-- a number of at most p + 3 words by its three highest -/
theorem three_top {l : List Nat} {p : Nat} (hb : B32 l) (h : val l < Wp (p + 3)) :
    ∃ low, low < Wp p ∧ val l = low + ((wd l (p + 2) * 4294967296 + wd l (p + 1)) * 4294967296 + wd l p) * Wp p := by
  refine ⟨val (l.take p), val_take_lt hb p, ?_⟩
  rw [← val_take_of hb h, val_take_succ', val_take_succ', val_take_succ', Wp_succ (p + 1), Wp_succ p]
  generalize wd l (p + 2) = x
  generalize wd l (p + 1) = y
  generalize wd l p = z
  rw [Nat.add_mul, Nat.add_mul, Nat.add_mul]
  have e1 : y * (4294967296 * Wp p) = y * 4294967296 * Wp p := by rw [Nat.mul_assoc]
  have e2 : x * (4294967296 * (4294967296 * Wp p)) = x * 4294967296 * 4294967296 * Wp p := by rw [← Nat.mul_assoc, ← Nat.mul_assoc]
  rw [e1, e2]
  omega
theorem two_top {l : List Nat} {p : Nat} (hb : B32 l) (h : l.length = p + 2) : ∃ low, low < Wp p ∧ val l = low + (wd l (p + 1) * 4294967296 + wd l p) * Wp p := by
  refine ⟨val (l.take p), val_take_lt hb p, ?_⟩
  rw [← val_take_all (l := l) (k := p + 2) (by omega), val_take_succ', val_take_succ', Wp_succ, Nat.add_mul]
  have e1 : wd l (p + 1) * (4294967296 * Wp p) = wd l (p + 1) * 4294967296 * Wp p := by rw [Nat.mul_assoc]
  rw [e1]
  omega

/-- what is known of a digit's estimate: X is what is left from the place j on, d the divisor -/
structure Est (X d top u2 v1 v2 P : Nat) : Prop where
  hi : X < (top * 4294967296 + u2 + 1) * P
  lo : (top * 4294967296 + u2) * P ≤ X
  dlo : (v1 * 4294967296 + v2) * P ≤ d
  dhi : d ≤ (v1 * 4294967296 + v2 + 1) * P
  top : top ≤ v1 * 4294967296 + 4294967295
  v1 : 2147483648 ≤ v1
  v2 : v2 < 4294967296
  XW : X < 4294967296 * d
  u2 : u2 < 4294967296

theorem low_lt {low P T : Nat} (h : low < P) : low + T * P < (T + 1) * P := by rw [Nat.add_mul, Nat.one_mul]; omega
theorem est_of {u d : List Nat} {j p : Nat} (hu : B32 u) (hd : B32 d) (hl : d.length = p + 2) (h1 : 2147483648 ≤ wd d (p + 1)) (hX : val (u.drop j) < 4294967296 * val d) (hI : val (u.drop (j + 1)) < val d) :
    Est (val (u.drop j)) (val d) (wd u (j + (p + 2)) * 4294967296 + wd u (j + (p + 1))) (wd u (j + p)) (wd d (p + 1)) (wd d p) (Wp p) := by
  have hdl := val_lt hd
  rw [hl] at hdl
  have hbu : B32 (u.drop j) := B32_drop hu j
  obtain ⟨lowd, hld, ed⟩ := two_top hd hl
  have hXW : val (u.drop j) < Wp (p + 3) := by
    have := Nat.mul_le_mul_left 4294967296 (Nat.le_of_lt hdl)
    rw [Wp_succ]; omega
  obtain ⟨low, hlo, eX⟩ := three_top hbu hXW
  rw [wd_drop, wd_drop, wd_drop] at eX
  -- the highest word is at most the divisor's
  have htop : wd u (j + (p + 2)) ≤ wd d (p + 1) := by
    have hbu1 : B32 (u.drop (j + 1)) := B32_drop hu _
    have a1 := val_take_of hbu1 (Nat.lt_trans hI hdl)
    have a2 := val_take_succ' (u.drop (j + 1)) (p + 1)
    rw [a1, wd_drop, show j + 1 + (p + 1) = j + (p + 2) by omega] at a2
    have a3 : val d < (wd d (p + 1) + 1) * Wp (p + 1) := by
      have b1 := val_take_succ' d (p + 1)
      rw [val_take_all (by omega)] at b1
      have b2 := val_take_lt hd (p + 1)
      rw [Nat.add_mul]; omega
    have a4 : wd u (j + (p + 2)) * Wp (p + 1) < (wd d (p + 1) + 1) * Wp (p + 1) := by omega
    have := Nat.lt_of_mul_lt_mul_right a4
    omega
  have hx1 := wd_lt hu (j + (p + 1))
  have hx2 := wd_lt hu (j + p)
  have hv2 := wd_lt hd p
  generalize wd u (j + (p + 2)) = x0 at *
  generalize wd u (j + (p + 1)) = x1 at *
  generalize wd u (j + p) = x2 at *
  generalize wd d (p + 1) = v1 at *
  generalize wd d p = v2 at *
  refine ⟨?_, ?_, ?_, ?_, by omega, h1, hv2, hX, hx2⟩
  · rw [eX]; exact low_lt hlo
  · omega
  · omega
  · rw [ed]; exact Nat.le_of_lt (low_lt hld)

theorem Es_t0 {top v1 q r : Nat} (e : v1 * q + r = top) (hv : 2147483648 ≤ v1) (ht : top ≤ v1 * 4294967296 + 4294967295) : q ≤ 4294967297 := by
  rcases Nat.lt_or_ge 4294967297 q with h3 | h3
  · have h4 : v1 * 4294967298 ≤ v1 * q := Nat.mul_le_mul_left _ h3
    omega
  · exact h3
/-- the estimate's state -/
def Es (X d top v1 t r : Nat) : Prop := t * v1 + r = top ∧ X < (t + 1) * d
theorem Es_start {X d top u2 v1 v2 P : Nat} (E : Est X d top u2 v1 v2 P) : Es X d top v1 (top / v1) (top % v1) ∧ top / v1 ≤ 4294967297 ∧ top % v1 < v1 := by
  have hv := E.v1
  have e := Nat.div_add_mod top v1
  refine ⟨⟨by rw [Nat.mul_comm]; exact e, ?_⟩, ?_, Nat.mod_lt _ (by omega)⟩
  · refine est_start (P := 4294967296 * P) ?_ ?_ (by omega)
    · have := E.hi
      have h2 : (top * 4294967296 + u2 + 1) * P ≤ ((top + 1) * 4294967296) * P := Nat.mul_le_mul_right _ (by have := E.u2; omega)
      rw [← Nat.mul_assoc]
      omega
    · have := E.dlo
      rw [Nat.add_mul] at this
      rw [← Nat.mul_assoc]; omega
  · have ht := E.top
    have hm := Nat.mod_lt top (show v1 > 0 by omega)
    exact Es_t0 e hv ht
theorem Es_dec {X d top u2 v1 v2 P t r : Nat} (E : Est X d top u2 v1 v2 P) (h : Es X d top v1 t r) (hc : 4294967295 < t ∨ r * 4294967296 + u2 < t * v2) : 1 ≤ t ∧ Es X d top v1 (t - 1) (r + v1) := by
  have ht : 1 ≤ t := by
    rcases Nat.eq_zero_or_pos t with h0 | h0
    · subst h0; simp at hc
    · exact h0
  have h1 : X < t * d := by
    rcases hc with hc | hc
    · have h2 := E.XW
      have : 4294967296 * d ≤ t * d := Nat.mul_le_mul_right _ (by omega)
      omega
    · exact est_dec E.hi E.dlo h.1 hc
  obtain ⟨s, rfl⟩ : ∃ s, t = s + 1 := ⟨t - 1, by omega⟩
  refine ⟨ht, ?_, by rw [Nat.add_sub_cancel]; exact h1⟩
  have h3 := h.1
  rw [Nat.add_sub_cancel]
  rw [Nat.add_mul, Nat.one_mul] at h3; omega
/-- a digit as it leaves the estimate -/
def Dg (X d t : Nat) : Prop := t ≤ 4294967295 ∧ X < (t + 1) * d ∧ (t - 1) * d ≤ X
theorem Es_end {X d top u2 v1 v2 P t r : Nat} (E : Est X d top u2 v1 v2 P) (h : Es X d top v1 t r) (ht : t ≤ 4294967295) (hc : t * v2 ≤ r * 4294967296 + u2) : Dg X d t :=
  ⟨ht, h.2, est_end E.lo E.dhi h.1 ht (by have := E.v1; omega) hc⟩
theorem Es_brk {X d top u2 v1 v2 P t r : Nat} (E : Est X d top u2 v1 v2 P) (h : Es X d top v1 t r) (hb : 4294967296 ≤ r) : Dg X d t := by
  obtain ⟨h1, h2⟩ := est_brk (u2 := u2) h.1 E.top (by have := E.v1; omega) E.v2 hb
  exact Es_end E h h1 h2
theorem Es_t {X d top v1 t r : Nat} (h : Es X d top v1 t r) (hv : 2147483648 ≤ v1) (ht : top ≤ v1 * 4294967296 + 4294967295) : t ≤ 4294967297 :=
  Es_t0 (by have := h.1; rw [Nat.mul_comm]; exact this) hv ht

def tq (top v1 : Nat) : Nat := top / v1
def tr (top v1 : Nat) : Nat := top % v1
def tv (t v2 : Nat) : Nat := t * v2
def rw2 (r u2 : Nat) : Nat := r * 4294967296 + u2
theorem tv_le {t v2 : Nat} (ht : t ≤ 4294967295) (hv : v2 < 4294967296) : tv t v2 ≤ 18446744065119617025 := Nat.mul_le_mul ht (show v2 ≤ 4294967295 by omega)
end Go.Proofs.Ytkjfpaommbjgbaa
namespace Go.Proofs.Ytkjfpaommbjgbaa

/-- the whole part of the square root -/
def isq (N : Nat) : Nat := if _h : N = 0 then 0 else if (2 * isq (N / 4) + 1) * (2 * isq (N / 4) + 1) ≤ N then 2 * isq (N / 4) + 1 else 2 * isq (N / 4)
termination_by N
decreasing_by all_goals omega

theorem sq_two (m : Nat) : (2 * m) * (2 * m) = 4 * (m * m) := by rw [Nat.mul_mul_mul_comm]
theorem isq_spec (N : Nat) : isq N * isq N ≤ N ∧ N < (isq N + 1) * (isq N + 1) := by
  induction N using Nat.strongRecOn with
  | _ N ih =>
    by_cases h : N = 0
    · subst h; rw [isq, dif_pos rfl]; omega
    · obtain ⟨h1, h2⟩ := ih (N / 4) (by omega)
      rw [isq, dif_neg h]
      generalize isq (N / 4) = m at *
      have e1 := sq_two m
      have e2 := sq_two (m + 1)
      rw [show 2 * (m + 1) = 2 * m + 1 + 1 by omega] at e2
      split
      · refine ⟨by assumption, ?_⟩
        rw [e2]; omega
      · refine ⟨by rw [e1]; omega, by omega⟩
theorem isq_unique {N s : Nat} (h1 : s * s ≤ N) (h2 : N < (s + 1) * (s + 1)) : s = isq N := by
  obtain ⟨h3, h4⟩ := isq_spec N
  generalize isq N = t at *
  rcases Nat.lt_trichotomy s t with h | h | h
  · have := Nat.mul_le_mul (show s + 1 ≤ t from h) (show s + 1 ≤ t from h); omega
  · exact h
  · have := Nat.mul_le_mul (show t + 1 ≤ s from h) (show t + 1 ≤ s from h); omega
theorem isq_zero : isq 0 = 0 := by rw [isq, dif_pos rfl]
theorem isq_pos {N : Nat} (h : N ≠ 0) : 0 < isq N := by
  rcases Nat.eq_zero_or_pos (isq N) with h0 | h0
  · have := (isq_spec N).2; rw [h0] at this; omega
  · exact h0
theorem isq_le (N : Nat) : isq N ≤ N := by
  have h := (isq_spec N).1
  rcases Nat.eq_zero_or_pos (isq N) with h0 | h0
  · omega
  · have := Nat.le_mul_of_pos_right (isq N) h0; omega
theorem isq_sq (n : Nat) : isq (n * n) = n := (isq_unique (Nat.le_refl _) (Nat.mul_lt_mul_of_lt_of_le (Nat.lt_succ_self n) (Nat.le_succ n) (Nat.succ_pos n))).symm

theorem four_mul_le (x y : Nat) : 4 * (x * y) ≤ (x + y) * (x + y) := by
  have key : ∀ x d : Nat, 4 * (x * (x + d)) ≤ (x + (x + d)) * (x + (x + d)) := by
    intro x d
    rw [show x + (x + d) = 2 * x + d by omega, Nat.add_mul, Nat.mul_add (2 * x), Nat.mul_add d, Nat.mul_add x, Nat.mul_add 4, sq_two, Nat.mul_comm d (2 * x), Nat.mul_assoc 2 x d]
    omega
  rcases Nat.le_total x y with h | h
  · obtain ⟨d, rfl⟩ := Nat.exists_eq_add_of_le h; exact key x d
  · obtain ⟨d, rfl⟩ := Nat.exists_eq_add_of_le h
    rw [Nat.mul_comm (y + d) y, Nat.add_comm (y + d) y]; exact key y d
def nxt (N s : Nat) : Nat := (s + N / s) / 2
theorem newton_step {N s : Nat} (hs : 0 < s) : N < (nxt N s + 1) * (nxt N s + 1) := by
  unfold nxt
  have h1 : N < s * (N / s + 1) := Nat.lt_mul_div_succ N hs
  have h2 := four_mul_le s (N / s + 1)
  generalize N / s = q at *
  have h3 : s + (q + 1) ≤ 2 * ((s + q) / 2 + 1) := by omega
  have h4 := Nat.mul_le_mul h3 h3
  rw [sq_two] at h4
  omega
theorem newton_exit {N s : Nat} (h : s ≤ nxt N s) : s * s ≤ N := by
  unfold nxt at h
  have h1 : s ≤ N / s := by omega
  have h2 := Nat.mul_le_mul_left s h1
  have h3 := Nat.mul_div_le N s
  omega
theorem nxt_pos {N s : Nat} (hN : N ≠ 0) (hs : 0 < s) : 0 < nxt N s := by
  unfold nxt
  rcases Nat.lt_or_ge s 2 with h | h
  · obtain rfl : s = 1 := by omega
    rw [Nat.div_one]; omega
  · generalize N / s = q
    omega
theorem pow_sq {N k : Nat} (h : blen N ≤ 2 * k) : N < 2 ^ k * 2 ^ k := by
  rw [← Nat.pow_add, show k + k = 2 * k by omega]
  exact blen_le.1 h
theorem newton_start {N k : Nat} (h : blen N ≤ 2 * k) : N < (2 ^ k + 1) * (2 ^ k + 1) := by
  have h1 := pow_sq h
  have := Nat.mul_le_mul (Nat.le_add_right (2 ^ k) 1) (Nat.le_add_right (2 ^ k) 1)
  omega

/-- bit by bit from the highest -/
def Rt (N s left k : Nat) : Prop := s * s + left = N ∧ N < (s + 2 ^ k) * (s + 2 ^ k)
def rmore (s k : Nat) : Nat := s * 2 ^ (k + 1) + 2 ^ (2 * k)
theorem sq_add (s k : Nat) : (s + 2 ^ k) * (s + 2 ^ k) = s * s + rmore s k := by
  unfold rmore
  have e1 : 2 ^ (2 * k) = 2 ^ k * 2 ^ k := by rw [← Nat.pow_add]; congr 1; omega
  rw [e1, Nat.pow_succ]
  generalize 2 ^ k = p
  rw [Nat.add_mul, Nat.mul_add, Nat.mul_add, ← Nat.mul_assoc, Nat.mul_comm p s]
  omega
theorem rt_yes {N s left k : Nat} (h : Rt N s left (k + 1)) (hm : rmore s k ≤ left) : Rt N (s + 2 ^ k) (left - rmore s k) k := by
  refine ⟨?_, ?_⟩
  · have := h.1; rw [sq_add]; omega
  · rw [show s + 2 ^ k + 2 ^ k = s + 2 ^ (k + 1) by rw [Nat.pow_succ]; omega]; exact h.2
theorem rt_no {N s left k : Nat} (h : Rt N s left (k + 1)) (hm : left < rmore s k) : Rt N s left k := by
  refine ⟨h.1, ?_⟩
  have := h.1; rw [sq_add]; omega
theorem rt_end {N s left : Nat} (h : Rt N s left 0) : s = isq N ∧ left = N - isq N * isq N := by
  have h1 : s = isq N := isq_unique (by have := h.1; omega) (by have := h.2; rwa [Nat.pow_zero] at this)
  refine ⟨h1, ?_⟩
  rw [← h1]; have := h.1; omega

/-- quotients bit by bit -/
theorem half_bit (N k : Nat) : N / 2 ^ k = 2 * (N / 2 ^ (k + 1)) + bitN N k := by
  unfold bitN
  rw [Nat.pow_succ, ← Nat.div_div_eq_div_mul]
  omega
theorem bq_no {N D k : Nat} (hD : 0 < D) (h : 2 * (N / 2 ^ (k + 1) % D) + bitN N k < D) : N / 2 ^ k / D = 2 * (N / 2 ^ (k + 1) / D) ∧ N / 2 ^ k % D = 2 * (N / 2 ^ (k + 1) % D) + bitN N k := by
  have e := half_bit N k
  generalize N / 2 ^ k = x at *
  generalize N / 2 ^ (k + 1) = y at *
  generalize bitN N k = c at *
  have h1 := Nat.div_add_mod y D
  generalize y / D = u at *
  generalize y % D = r at *
  have e2 : x = (2 * r + c) + D * (2 * u) := by rw [e, ← h1, Nat.mul_add, ← Nat.mul_assoc, Nat.mul_comm 2 D, Nat.mul_assoc]; omega
  rw [e2, Nat.add_mul_div_left _ _ hD, Nat.add_mul_mod_self_left, Nat.div_eq_of_lt h, Nat.mod_eq_of_lt h]
  exact ⟨by omega, rfl⟩
theorem bq_yes {N D k : Nat} (hD : 0 < D) (hb : bitN N k ≤ 1) (h : D ≤ 2 * (N / 2 ^ (k + 1) % D) + bitN N k) :
    N / 2 ^ k / D = 2 * (N / 2 ^ (k + 1) / D) + 1 ∧ N / 2 ^ k % D = 2 * (N / 2 ^ (k + 1) % D) + bitN N k - D := by
  have e := half_bit N k
  generalize N / 2 ^ k = x at *
  generalize N / 2 ^ (k + 1) = y at *
  generalize bitN N k = c at *
  have h1 := Nat.div_add_mod y D
  have h2 := Nat.mod_lt y hD
  generalize y / D = u at *
  generalize y % D = r at *
  obtain ⟨z, hz⟩ : ∃ z, z = 2 * r + c - D := ⟨_, rfl⟩
  have hz1 : z < D := by omega
  have e2 : x = z + D * (2 * u + 1) := by
    rw [e, ← h1, Nat.mul_add D, Nat.mul_one, Nat.mul_add 2, ← Nat.mul_assoc, Nat.mul_comm 2 D, Nat.mul_assoc]; omega
  rw [← hz, e2, Nat.add_mul_div_left _ _ hD, Nat.add_mul_mod_self_left, Nat.div_eq_of_lt hz1, Nat.mod_eq_of_lt hz1]
  exact ⟨by omega, rfl⟩
/-- a bit is set where there is none yet -/
theorem or_bit {o : List Nat} {k y : Nat} (hb : B32 o) (h : val o = 2 ^ (k + 1) * y) (hk : k / 32 < o.length) :
    wd o (k / 32) ||| 2 ^ (k % 32) = wd o (k / 32) + 2 ^ (k % 32) ∧ wd o (k / 32) + 2 ^ (k % 32) < 4294967296 ∧ val (o.set (k / 32) (wd o (k / 32) + 2 ^ (k % 32))) = val o + 2 ^ k := by
  have hs : k % 32 < 32 := Nat.mod_lt _ (by omega)
  have h1 := val_set (o := o) (k := k / 32) (wd o (k / 32) + 2 ^ (k % 32)) hk
  have e0 : 2 ^ k = 2 ^ (k % 32) * Wp (k / 32) := by rw [Wp_eq, ← Nat.pow_add]; congr 1; omega
  have e1 : 2 ^ (k + 1) * y = Wp (k / 32) * (2 ^ (k % 32 + 1) * y) := by
    rw [Wp_eq, ← Nat.mul_assoc, ← Nat.pow_add]; congr 2; omega
  have e2 : (4294967296 : Nat) = 2 ^ (k % 32 + 1) * 2 ^ (31 - k % 32) := by
    rw [← Nat.pow_add, show k % 32 + 1 + (31 - k % 32) = 32 by omega]
  have e3 : wd o (k / 32) = 2 ^ (k % 32 + 1) * (y % 2 ^ (31 - k % 32)) := by
    rw [wd_val hb, h, e1, Nat.mul_div_cancel_left _ (Wp_pos _), e2, Nat.mul_mod_mul_left]
  have e4 := Nat.mod_lt y (show 0 < 2 ^ (31 - k % 32) from Nat.pow_pos (by omega))
  have e5 : (2 : Nat) ^ (k % 32) < 2 ^ (k % 32 + 1) := Nat.pow_lt_pow_right (by omega) (by omega)
  refine ⟨?_, ?_, ?_⟩
  · rw [e3]; exact (Nat.two_pow_add_eq_or_of_lt e5 _).symm
  · rw [e3, e2]
    have := Nat.mul_le_mul_left (2 ^ (k % 32 + 1)) (show y % 2 ^ (31 - k % 32) + 1 ≤ 2 ^ (31 - k % 32) from e4)
    rw [Nat.mul_add, Nat.mul_one] at this
    omega
  · rw [Nat.add_mul, ← e0] at h1; omega
/-- twice, and a bit -/
def dbw (x c : Nat) : Nat := (2 * x + c) % 4294967296
def dbc (x : Nat) : Nat := x / 2147483648
theorem dbc_le {x : Nat} (h : x < 4294967296) : dbc x ≤ 1 := by unfold dbc; omega
theorem dbw_lt (x c : Nat) : dbw x c < 4294967296 := Nat.mod_lt _ (by omega)
theorem dbw_or {x c : Nat} (hc : c ≤ 1) : (x * 2 % 4294967296) ||| c = dbw x c := by
  unfold dbw
  have e1 : x * 2 % 4294967296 = 2 ^ 1 * (x % 2147483648) := by omega
  rw [e1, ← Nat.two_pow_add_eq_or_of_lt (show c < 2 ^ 1 by omega)]
  omega
theorem dbl_step {o a : List Nat} {i c bit : Nat} (hi : i < a.length) (hl : o.length = i) (hc : c ≤ 1) (h : val o + c * Wp i = 2 * val (a.take i) + bit) :
    val (o ++ [dbw (wd a i) c]) + dbc (wd a i) * Wp (i + 1) = 2 * val (a.take (i + 1)) + bit := by
  rw [val_append, val_one, hl, take_succ_wd hi, val_append, val_one, List.length_take, Nat.min_eq_left (by omega), Wp_succ]
  have e : dbw (wd a i) c + dbc (wd a i) * 4294967296 = 2 * wd a i + c := by unfold dbw dbc; omega
  have e2 : Wp i * dbw (wd a i) c + dbc (wd a i) * (4294967296 * Wp i) = Wp i * (2 * wd a i + c) := by
    rw [← e, Nat.mul_add, Nat.mul_comm (Wp i) (dbc _ * _), Nat.mul_assoc]
  rw [Nat.mul_add, Nat.mul_comm c] at *
  rw [show Wp i * (2 * wd a i) = 2 * (Wp i * wd a i) by rw [← Nat.mul_assoc, Nat.mul_comm (Wp i) 2, Nat.mul_assoc]] at e2
  omega
end Go.Proofs.Ytkjfpaommbjgbaa
namespace Go.Proofs.Ytkjfpaommbjgbaa

theorem bit_zero_dvd {n k : Nat} (h : 2 ^ k ∣ n) (h0 : bitN n k = 0) : 2 ^ (k + 1) ∣ n := by
  obtain ⟨m, rfl⟩ := h
  unfold bitN at h0
  rw [Nat.mul_div_cancel_left _ (Nat.pow_pos (by omega))] at h0
  obtain ⟨q, rfl⟩ := Nat.dvd_of_mod_eq_zero h0
  exact ⟨q, by rw [Nat.pow_succ, Nat.mul_assoc]⟩
theorem bit_one_odd {n k : Nat} (h0 : bitN n k ≠ 0) : n / 2 ^ k % 2 = 1 := by unfold bitN at h0; omega
theorem bit_some {n k : Nat} (hn : n ≠ 0) (h : 2 ^ k ∣ n) : k < blen n := by
  have h1 := Nat.le_of_dvd (by omega) h
  rcases Nat.lt_or_ge k (blen n) with h2 | h2
  · exact h2
  · have := blen_le.1 h2; omega
theorem cop_two {n : Nat} (h : n % 2 = 1) (k : Nat) : Nat.Coprime (2 ^ k) n := by
  apply Nat.Coprime.pow_left
  unfold Nat.Coprime
  rw [Nat.gcd_rec, h]
  rfl
/-- what is left of n without its factors of 2 -/
def oddp (n k : Nat) : Prop := 2 ^ k ∣ n ∧ n / 2 ^ k % 2 = 1
theorem gcd_odd_left {n m k : Nat} (h : oddp n k) (hm : m % 2 = 1) : Nat.gcd (n / 2 ^ k) m = Nat.gcd n m := by
  obtain ⟨h1, _⟩ := h
  obtain ⟨q, rfl⟩ := h1
  rw [Nat.mul_div_cancel_left _ (Nat.pow_pos (by omega)), Nat.Coprime.gcd_mul_left_cancel _ (cop_two hm k)]
theorem oddp_bit {n k : Nat} (h : 2 ^ k ∣ n) (h0 : bitN n k ≠ 0) : oddp n k := ⟨h, bit_one_odd h0⟩
/-- the start: the common twos -/
theorem gcd_twos {a b t i j : Nat} (ha : 2 ^ t ∣ a) (hb : 2 ^ t ∣ b) (hor : bitN a t ≠ 0 ∨ bitN b t ≠ 0) (hi : oddp a i) (hj : oddp b j) : Nat.gcd (a / 2 ^ i) (b / 2 ^ j) * 2 ^ t = Nat.gcd a b := by
  obtain ⟨a', rfl⟩ := ha
  obtain ⟨b', rfl⟩ := hb
  have hp : 0 < 2 ^ t := Nat.pow_pos (by omega)
  have uniq : ∀ {n i : Nat}, n % 2 = 1 → oddp (2 ^ t * n) i → 2 ^ t * n / 2 ^ i = n := by
    intro n i hn ⟨h1, h2⟩
    have hle : i ≤ t := by
      rcases Nat.lt_or_ge t i with h | h
      · exfalso
        obtain ⟨d, rfl⟩ := Nat.exists_eq_add_of_lt h
        rw [show t + d + 1 = t + (d + 1) by omega, Nat.pow_add] at h1
        obtain ⟨q, hq⟩ := Nat.dvd_of_mul_dvd_mul_left hp h1
        rw [Nat.pow_succ, Nat.mul_comm (2 ^ d) 2, Nat.mul_assoc] at hq
        omega
      · exact h
    rcases Nat.lt_or_ge i t with h | h
    · exfalso
      obtain ⟨d, rfl⟩ := Nat.exists_eq_add_of_lt h
      rw [show i + d + 1 = i + (d + 1) by omega, Nat.pow_add, Nat.mul_assoc, Nat.mul_div_cancel_left _ (Nat.pow_pos (by omega)), Nat.pow_succ, Nat.mul_comm (2 ^ d) 2, Nat.mul_assoc] at h2
      omega
    · obtain rfl : i = t := by omega
      rw [Nat.mul_div_cancel_left _ hp]
  have half : ∀ {n i : Nat}, oddp (2 ^ t * n) i → Nat.gcd (2 ^ t * n / 2 ^ i) 1 = 1 ∧ ∃ d, n = 2 ^ d * (2 ^ t * n / 2 ^ i) := by
    intro n i ⟨h1, h2⟩
    refine ⟨Nat.gcd_one_right _, ?_⟩
    obtain ⟨q, hq⟩ := h1
    rw [hq, Nat.mul_div_cancel_left _ (Nat.pow_pos (by omega))] at h2 ⊢
    rcases Nat.lt_or_ge i t with h | h
    · exfalso
      obtain ⟨d, rfl⟩ := Nat.exists_eq_add_of_lt h
      rw [show i + d + 1 = i + (d + 1) by omega, Nat.pow_add, Nat.mul_assoc] at hq
      have := Nat.eq_of_mul_eq_mul_left (Nat.pow_pos (by omega)) hq
      rw [← this, Nat.pow_succ, Nat.mul_comm (2 ^ d) 2, Nat.mul_assoc] at h2
      omega
    · obtain ⟨d, rfl⟩ := Nat.exists_eq_add_of_le h
      rw [Nat.pow_add, Nat.mul_assoc] at hq
      exact ⟨d, Nat.eq_of_mul_eq_mul_left hp hq⟩
  rw [Nat.gcd_mul_left, Nat.mul_comm]
  congr 1
  unfold bitN at hor
  rw [Nat.mul_div_cancel_left _ hp, Nat.mul_div_cancel_left _ hp] at hor
  obtain ⟨_, da, ea⟩ := half hi
  obtain ⟨_, db, eb⟩ := half hj
  rcases hor with h | h
  · have e1 := uniq (show a' % 2 = 1 by omega) hi
    rw [e1]
    have hb1 := hj.2
    generalize 2 ^ t * b' / 2 ^ j = v at *
    rw [eb, Nat.gcd_comm a' v, Nat.gcd_comm a' (2 ^ db * v), Nat.Coprime.gcd_mul_left_cancel _ (cop_two (by omega) db)]
  · have e1 := uniq (show b' % 2 = 1 by omega) hj
    rw [e1]
    generalize 2 ^ t * a' / 2 ^ i = v at *
    rw [ea, Nat.Coprime.gcd_mul_left_cancel _ (cop_two (by omega) da)]
theorem gcd_sub {a b k : Nat} (hb : b % 2 = 1) (h : b ≤ a) (ho : oddp (a - b) k) : Nat.gcd ((a - b) / 2 ^ k) b = Nat.gcd a b := by
  rw [gcd_odd_left ho hb]
  exact Nat.gcd_sub_self_left h
theorem odd_lt {a b k : Nat} (hb : 0 < b) (h : b < a) : (a - b) / 2 ^ k < a := Nat.lt_of_le_of_lt (Nat.div_le_self _ _) (by omega)
end Go.Proofs.Ytkjfpaommbjgbaa
namespace Go.Proofs.Ytkjfpaommbjgbaa

/-- below 0? -/
def qn (q : Rat) : Bool := decide (q.num < 0)
/-- the top, without its sign -/
def qt (q : Rat) : Nat := q.num.natAbs
/-- the bottom -/
def qd (q : Rat) : Nat := q.den
/-- a fraction in lowest terms -/
def ratN (neg : Bool) (n d : Nat) : Rat := mkRat (if neg = true then -(n : Int) else n) d
/-- its words -/
def qw (q : Rat) : Nat := max (digs (qt q)).length (digs (qd q)).length

theorem qd_pos (q : Rat) : qd q ≠ 0 := q.den_nz
theorem q_num (q : Rat) : q.num = if qn q = true then -(qt q : Int) else (qt q : Int) := by
  unfold qn qt
  by_cases h : q.num < 0
  · rw [if_pos (by simp [h])]; omega
  · rw [if_neg (by simp [h])]; omega
theorem q_cop (q : Rat) : Nat.gcd (qt q) (qd q) = 1 := q.reduced
theorem qn_zero {q : Rat} (h : qt q = 0) : qn q = false := by
  unfold qt at h; unfold qn; rw [decide_eq_false_iff_not]; omega
theorem q_ext {p q : Rat} (h1 : qn p = qn q) (h2 : qt p = qt q) (h3 : qd p = qd q) : p = q := by
  apply Rat.ext
  · rw [q_num, q_num, h1, h2]
  · exact h3
theorem q_self (q : Rat) : ratN (qn q) (qt q) (qd q) = q := by
  unfold ratN; rw [← q_num]; exact Rat.mkRat_self q
theorem ratN_d (neg : Bool) (n d : Nat) (hd : d ≠ 0) : qd (ratN neg n d) = d / Nat.gcd n d := by
  unfold qd ratN
  rw [Rat.den_mkRat, if_neg hd]
  congr 1
  rw [Nat.gcd_comm]
  congr 1
  cases neg <;> simp
theorem gcd_dvd_top {n d : Nat} : ((Nat.gcd n d : Nat) : Int) ∣ (n : Int) := Int.ofNat_dvd.2 (Nat.gcd_dvd_left n d)
theorem ratN_num (neg : Bool) (n d : Nat) (hd : d ≠ 0) : (ratN neg n d).num = if neg = true then -((n / Nat.gcd n d : Nat) : Int) else ((n / Nat.gcd n d : Nat) : Int) := by
  unfold ratN
  rw [Rat.num_mkRat, if_neg hd]
  have e : d.gcd (if neg = true then -(n : Int) else (n : Int)).natAbs = Nat.gcd n d := by
    rw [Nat.gcd_comm]; congr 1; cases neg <;> simp
  rw [e]
  cases neg with
  | true => rw [if_pos rfl, if_pos rfl, Int.neg_ediv_of_dvd gcd_dvd_top]; simp
  | false => rw [if_neg (by simp), if_neg (by simp)]; simp
theorem ratN_t (neg : Bool) (n d : Nat) (hd : d ≠ 0) : qt (ratN neg n d) = n / Nat.gcd n d := by
  unfold qt; rw [ratN_num neg n d hd]; cases neg
  · rw [if_neg (by simp)]; exact Int.natAbs_natCast _
  · rw [if_pos rfl, Int.natAbs_neg]; exact Int.natAbs_natCast _
theorem ratN_n (neg : Bool) (n d : Nat) (hd : d ≠ 0) : qn (ratN neg n d) = (neg && decide (0 < n / Nat.gcd n d)) := by
  unfold qn; rw [ratN_num neg n d hd]; cases neg
  · rw [if_neg (by simp), Bool.false_and, decide_eq_false_iff_not]; exact Int.not_lt.2 (Int.natCast_nonneg _)
  · rw [if_pos rfl, Bool.true_and]
    by_cases h : 0 < n / Nat.gcd n d
    · rw [decide_eq_true h, decide_eq_true_eq]; generalize n / Nat.gcd n d = k at h ⊢; omega
    · rw [decide_eq_false h, decide_eq_false_iff_not]; generalize n / Nat.gcd n d = k at h ⊢; omega
theorem q_sum_same {p q : Rat} (h : qn p = qn q) : ratN (qn p) (qt p * qd q + qt q * qd p) (qd p * qd q) = p + q := by
  rw [Rat.add_def']
  unfold ratN
  rw [q_num p, q_num q, ← h]
  show mkRat _ (p.den * q.den) = _
  congr 1
  unfold qd
  cases qn p
  · simp
  · simp only [if_true, Int.natCast_add, Int.natCast_mul, Int.neg_mul]; omega
theorem q_sum_left {p q : Rat} (h : qn p ≠ qn q) (hle : qt q * qd p ≤ qt p * qd q) : ratN (qn p) (qt p * qd q - qt q * qd p) (qd p * qd q) = p + q := by
  rw [Rat.add_def']
  unfold ratN
  rw [q_num p, q_num q]
  show mkRat _ (p.den * q.den) = _
  congr 1
  rw [Int.ofNat_sub hle]
  unfold qd
  unfold qd at hle
  rw [Int.natCast_mul, Int.natCast_mul]
  revert h
  cases qn p <;> cases qn q <;> intro h
  · exact absurd rfl h
  · rw [if_neg (by simp), if_neg (by simp), if_pos rfl, Int.neg_mul]; omega
  · rw [if_pos rfl, if_pos rfl, if_neg (by simp), Int.neg_mul]; omega
  · exact absurd rfl h
theorem q_sum_right {p q : Rat} (h : qn p ≠ qn q) (hle : qt p * qd q ≤ qt q * qd p) : ratN (qn q) (qt q * qd p - qt p * qd q) (qd p * qd q) = p + q := by
  rw [Rat.add_comm, Nat.mul_comm (qd p)]
  exact q_sum_left (fun e => h e.symm) hle
theorem q_mul (p q : Rat) : ratN (qn p != qn q) (qt p * qt q) (qd p * qd q) = p * q := by
  rw [Rat.mul_def']
  unfold ratN
  rw [q_num p, q_num q]
  show mkRat _ (p.den * q.den) = _
  congr 1
  rw [Int.natCast_mul]
  cases qn p <;> cases qn q
  · rfl
  · exact (Int.mul_neg _ _).symm
  · exact (Int.neg_mul _ _).symm
  · exact (Int.neg_mul_neg _ _).symm
theorem q_neg_t (p : Rat) : qt (-p) = qt p := by unfold qt; rw [Rat.neg_num, Int.natAbs_neg]
theorem q_neg_d (p : Rat) : qd (-p) = qd p := rfl
theorem q_neg_n (p : Rat) : qn (-p) = (!qn p && decide (0 < qt p)) := by
  unfold qn qt; rw [Rat.neg_num]
  by_cases h1 : p.num < 0
  · simp [h1]; omega
  · by_cases h2 : p.num = 0
    · simp [h2]
    · have h3 : 0 < p.num := by omega
      simp [h1, h2]; exact h3
theorem ratN_facts (neg : Bool) (n d : Nat) (hd : d ≠ 0) : qn (ratN neg n d) = (neg && decide (0 < n / Nat.gcd n d)) ∧ qt (ratN neg n d) = n / Nat.gcd n d ∧ qd (ratN neg n d) = d / Nat.gcd n d := ⟨ratN_n _ _ _ hd, ratN_t _ _ _ hd, ratN_d _ _ _ hd⟩
/-- a fraction that is sound is a rational number -/
theorem q_of {neg : Bool} {n d : Nat} (hd : d ≠ 0) (hg : Nat.gcd n d = 1) (h0 : n = 0 → neg = false) : ∃ q : Rat, qn q = neg ∧ qt q = n ∧ qd q = d := by
  refine ⟨ratN neg n d, ?_, ?_, ?_⟩
  · rw [ratN_n _ _ _ hd, hg, Nat.div_one]
    cases neg
    · rfl
    · have : n ≠ 0 := fun h => by have := h0 h; cases this
      rw [decide_eq_true (by omega)]; rfl
  · rw [ratN_t _ _ _ hd, hg, Nat.div_one]
  · rw [ratN_d _ _ _ hd, hg, Nat.div_one]
theorem q_inv_t {q : Rat} (h : qn q = false) (h0 : qt q ≠ 0) : qt q⁻¹ = qd q ∧ qd q⁻¹ = qt q ∧ qn q⁻¹ = false := by
  have hn : q.num = (qt q : Int) := by rw [q_num, h]; rfl
  have e : q⁻¹ = ratN false (qd q) (qt q) := by
    rw [Rat.inv_def, hn, Rat.divInt_ofNat]; rfl
  have hg : Nat.gcd (qd q) (qt q) = 1 := by rw [Nat.gcd_comm]; exact q_cop q
  rw [e, ratN_t _ _ _ h0, ratN_d _ _ _ h0, ratN_n _ _ _ h0, hg, Nat.div_one, Nat.div_one]
  exact ⟨rfl, rfl, rfl⟩
theorem qt_zero {q : Rat} : qt q = 0 ↔ q = 0 := by
  unfold qt; rw [Int.natAbs_eq_zero]; exact Rat.num_eq_zero
theorem qn_iff {q : Rat} : qn q = true ↔ q < 0 := by
  unfold qn; rw [decide_eq_true_eq, Rat.lt_iff]; simp
/-- whole numbers -/
theorem qt_int (i : Int) : qt (i : Rat) = i.natAbs := rfl
theorem qd_int (i : Int) : qd (i : Rat) = 1 := rfl
theorem qn_int (i : Int) : qn (i : Rat) = decide (i < 0) := rfl
theorem ratN_whole (neg : Bool) (n : Nat) : ratN neg n 1 = ((if neg = true then -(n : Int) else (n : Int) : Int) : Rat) := by
  unfold ratN
  exact Rat.mkRat_one _
/-- words -/
theorem digs_mono {a b : Nat} (h : a ≤ b) : (digs a).length ≤ (digs b).length := by
  rw [digs_len_le]
  exact Nat.lt_of_le_of_lt h (digs_len_le.1 (Nat.le_refl _))
theorem digs_mul (a b : Nat) : (digs (a * b)).length ≤ (digs a).length + (digs b).length := by
  rw [digs_len_le, Wp_add]
  have ha := digs_len_le.1 (Nat.le_refl (digs a).length)
  have hb := digs_len_le.1 (Nat.le_refl (digs b).length)
  exact Nat.mul_lt_mul'' ha hb
theorem digs_add {a b k : Nat} (ha : (digs a).length ≤ k) (hb : (digs b).length ≤ k) : (digs (a + b)).length ≤ k + 1 := by
  rw [digs_len_le, Wp_succ]
  have h1 := digs_len_le.1 ha
  have h2 := digs_len_le.1 hb
  have := Wp_pos k
  omega
theorem qw_ratN (neg : Bool) (n d : Nat) (hd : d ≠ 0) {k : Nat} (h1 : (digs n).length ≤ k) (h2 : (digs d).length ≤ k) : qw (ratN neg n d) ≤ k := by
  unfold qw
  rw [ratN_t _ _ _ hd, ratN_d _ _ _ hd]
  have := digs_mono (Nat.div_le_self n (Nat.gcd n d))
  have := digs_mono (Nat.div_le_self d (Nat.gcd n d))
  omega
theorem qw_t (q : Rat) : (digs (qt q)).length ≤ qw q := Nat.le_max_left ..
theorem qw_d (q : Rat) : (digs (qd q)).length ≤ qw q := Nat.le_max_right ..
theorem qw_neg (q : Rat) : qw (-q) = qw q := by unfold qw; rw [q_neg_t, q_neg_d]
theorem qw_mul (p q : Rat) : qw (p * q) ≤ qw p + qw q := by
  rw [← q_mul]
  refine qw_ratN _ _ _ (Nat.mul_ne_zero (qd_pos p) (qd_pos q)) ?_ ?_
  · have := digs_mul (qt p) (qt q); have := qw_t p; have := qw_t q; omega
  · have := digs_mul (qd p) (qd q); have := qw_d p; have := qw_d q; omega
theorem q_xy (p q : Rat) : (digs (qt p * qd q)).length ≤ qw p + qw q := by
  have := digs_mul (qt p) (qd q); have := qw_t p; have := qw_d q; omega
theorem q_bb (p q : Rat) : (digs (qd p * qd q)).length ≤ qw p + qw q := by
  have := digs_mul (qd p) (qd q); have := qw_d p; have := qw_d q; omega
theorem qw_add (p q : Rat) : qw (p + q) ≤ qw p + qw q + 1 := by
  have hd := Nat.mul_ne_zero (qd_pos p) (qd_pos q)
  have h1 := q_xy p q
  have h2 := q_xy q p
  have h3 := q_bb p q
  by_cases h : qn p = qn q
  · rw [← q_sum_same h]
    exact qw_ratN _ _ _ hd (digs_add h1 (by omega)) (by omega)
  · rcases Nat.le_total (qt q * qd p) (qt p * qd q) with hl | hl
    · rw [← q_sum_left h hl]
      refine qw_ratN _ _ _ hd ?_ (by omega)
      have := digs_mono (Nat.sub_le (qt p * qd q) (qt q * qd p)); omega
    · rw [← q_sum_right h hl]
      refine qw_ratN _ _ _ hd ?_ (by omega)
      have := digs_mono (Nat.sub_le (qt q * qd p) (qt p * qd q)); omega
/-- order -/
def cmpQ (p q : Rat) : Int := if qn (p + -q) = true then -1 else if 0 < qt (p + -q) then 1 else 0
theorem q_sub (p q : Rat) : p + -q = p - q := (Rat.sub_eq_add_neg p q).symm
end Go.Proofs.Ytkjfpaommbjgbaa
