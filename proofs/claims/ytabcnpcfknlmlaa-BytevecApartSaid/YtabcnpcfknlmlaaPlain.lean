/- The plain arithmetic of lists of words of 32 bits: their value, and the words of a number. No program in sight. -/
namespace Go.Proofs.Ytabcnpcfknlmlaa

/-- what the words of a list, the lowest first, are as a number -/
def val : List Nat → Nat
  | [] => 0
  | x :: l => x + 4294967296 * val l

/-- the words of a number -/
def digs (n : Nat) : List Nat := if h : n = 0 then [] else (n % 4294967296) :: digs (n / 4294967296)
termination_by n
decreasing_by omega

def wd (l : List Nat) (k : Nat) : Nat := l.getD k 0
def B32 (l : List Nat) : Prop := ∀ x ∈ l, x < 4294967296
def Wp (k : Nat) : Nat := 4294967296 ^ k

theorem Wp_zero : Wp 0 = 1 := rfl
theorem Wp_succ (k : Nat) : Wp (k + 1) = 4294967296 * Wp k := by unfold Wp; rw [Nat.pow_succ, Nat.mul_comm]
theorem Wp_pos (k : Nat) : 0 < Wp k := by unfold Wp; exact Nat.pow_pos (by omega)
theorem Wp_add (a b : Nat) : Wp (a + b) = Wp a * Wp b := by unfold Wp; exact Nat.pow_add ..
theorem Wp_eq (k : Nat) : Wp k = 2 ^ (32 * k) := by unfold Wp; rw [Nat.pow_mul]
theorem Wp_mono {a b : Nat} (h : a ≤ b) : Wp a ≤ Wp b := by unfold Wp; exact Nat.pow_le_pow_right (by omega) h

theorem digs_zero : digs 0 = [] := by rw [digs]; simp
theorem digs_pos {n : Nat} (h : n ≠ 0) : digs n = (n % 4294967296) :: digs (n / 4294967296) := by rw [digs]; simp [h]

theorem val_digs (n : Nat) : val (digs n) = n := by
  induction n using Nat.strongRecOn with
  | ind n ih =>
    by_cases h : n = 0
    · subst h; simp [digs_zero, val]
    · rw [digs_pos h, val, ih _ (by omega)]; omega

theorem B32_nil : B32 [] := by intro x h; cases h
theorem B32_cons {x : Nat} {l : List Nat} (hx : x < 4294967296) (h : B32 l) : B32 (x :: l) := by
  intro y hy
  rcases List.mem_cons.1 hy with rfl | h2
  · exact hx
  · exact h _ h2
theorem B32_head {x : Nat} {l : List Nat} (h : B32 (x :: l)) : x < 4294967296 := h x (by simp)
theorem B32_tail {x : Nat} {l : List Nat} (h : B32 (x :: l)) : B32 l := fun y hy => h y (by simp [hy])
theorem B32_append {a b : List Nat} (ha : B32 a) (hb : B32 b) : B32 (a ++ b) := by
  intro x hx
  rcases List.mem_append.1 hx with h | h
  · exact ha _ h
  · exact hb _ h
theorem B32_take {l : List Nat} (h : B32 l) (k : Nat) : B32 (l.take k) := fun x hx => h x (List.mem_of_mem_take hx)
theorem B32_drop {l : List Nat} (h : B32 l) (k : Nat) : B32 (l.drop k) := fun x hx => h x (List.mem_of_mem_drop hx)
theorem B32_set {l : List Nat} (h : B32 l) (k : Nat) {x : Nat} (hx : x < 4294967296) : B32 (l.set k x) := by
  intro y hy
  rcases List.mem_or_eq_of_mem_set hy with h2 | rfl
  · exact h _ h2
  · exact hx
theorem B32_replicate (n : Nat) : B32 (List.replicate n 0) := by
  intro x hx
  rw [List.eq_of_mem_replicate hx]; omega

theorem B32_digs (n : Nat) : B32 (digs n) := by
  induction n using Nat.strongRecOn with
  | ind n ih =>
    by_cases h : n = 0
    · subst h; rw [digs_zero]; exact B32_nil
    · rw [digs_pos h]; exact B32_cons (Nat.mod_lt _ (by omega)) (ih _ (by omega))

theorem wd_lt {l : List Nat} (h : B32 l) (k : Nat) : wd l k < 4294967296 := by
  unfold wd
  by_cases hk : k < l.length
  · rw [List.getD_eq_getElem?_getD, List.getElem?_eq_getElem hk]; exact h _ (List.getElem_mem hk)
  · rw [List.getD_eq_getElem?_getD, List.getElem?_eq_none (by omega)]; simp
theorem wd_out {l : List Nat} {k : Nat} (h : l.length ≤ k) : wd l k = 0 := by
  unfold wd; rw [List.getD_eq_getElem?_getD, List.getElem?_eq_none h]; rfl
theorem wd_zero (x : Nat) (l : List Nat) : wd (x :: l) 0 = x := rfl
theorem wd_succ (x : Nat) (l : List Nat) (k : Nat) : wd (x :: l) (k + 1) = wd l k := rfl
theorem wd_nil (k : Nat) : wd [] k = 0 := rfl
theorem wd_get {l : List Nat} {k : Nat} (h : k < l.length) : l[k] = wd l k := by
  unfold wd; rw [List.getD_eq_getElem?_getD, List.getElem?_eq_getElem h]; rfl
theorem wd_get? {l : List Nat} {k : Nat} (h : k < l.length) : l[k]? = some (wd l k) := by
  rw [List.getElem?_eq_getElem h, wd_get h]
theorem wd_set_eq {l : List Nat} {k x : Nat} (h : k < l.length) : wd (l.set k x) k = x := by
  unfold wd; simp [List.getD_eq_getElem?_getD, h]
theorem wd_set_ne {l : List Nat} {k j x : Nat} (h : k ≠ j) : wd (l.set k x) j = wd l j := by
  unfold wd; simp [List.getD_eq_getElem?_getD, h]
theorem wd_append_left {a b : List Nat} {k : Nat} (h : k < a.length) : wd (a ++ b) k = wd a k := by
  unfold wd; simp [List.getD_eq_getElem?_getD, List.getElem?_append, h]
theorem wd_append_right {a b : List Nat} {k : Nat} : wd (a ++ b) (a.length + k) = wd b k := by
  unfold wd; simp only [List.getD_eq_getElem?_getD]; rw [List.getElem?_append_right (by omega), Nat.add_sub_cancel_left]
theorem wd_take {l : List Nat} {k n : Nat} (h : k < n) : wd (l.take n) k = wd l k := by
  unfold wd; simp [List.getD_eq_getElem?_getD, h]
theorem wd_drop (l : List Nat) (k n : Nat) : wd (l.drop n) k = wd l (n + k) := by
  unfold wd; simp [List.getD_eq_getElem?_getD, List.getElem?_drop]
theorem wd_replicate (n k : Nat) : wd (List.replicate n 0) k = 0 := by
  unfold wd; simp [List.getD_eq_getElem?_getD, List.getElem?_replicate]; split <;> rfl
theorem wd_ext {a b : List Nat} (hl : a.length = b.length) (h : ∀ k, k < a.length → wd a k = wd b k) : a = b := by
  refine List.ext_getElem hl fun k h1 h2 => ?_
  rw [wd_get h1, wd_get h2]; exact h k h1

theorem val_one (x : Nat) : val [x] = x := by simp [val]
theorem val_append (a b : List Nat) : val (a ++ b) = val a + Wp a.length * val b := by
  induction a with
  | nil => simp [val, Wp_zero]
  | cons x a ih => simp only [List.cons_append, val, ih, List.length_cons, Wp_succ, Nat.mul_add, Nat.mul_assoc, Nat.add_assoc]
theorem val_lt {l : List Nat} (h : B32 l) : val l < Wp l.length := by
  induction l with
  | nil => simp [val, Wp_zero]
  | cons x l ih =>
    have := ih (B32_tail h); have hx := B32_head h
    simp only [val, List.length_cons, Wp_succ]; omega
theorem val_replicate (n : Nat) : val (List.replicate n 0) = 0 := by
  induction n with
  | zero => rfl
  | succ n ih => simp [List.replicate_succ, val, ih]
theorem take_succ_wd {l : List Nat} {k : Nat} (h : k < l.length) : l.take (k + 1) = l.take k ++ [wd l k] := by
  rw [List.take_succ_eq_append_getElem h, wd_get h]
theorem val_take_succ {l : List Nat} {k : Nat} (h : k < l.length) : val (l.take (k + 1)) = val (l.take k) + wd l k * Wp k := by
  rw [take_succ_wd h, val_append, List.length_take, Nat.min_eq_left (Nat.le_of_lt h), Nat.mul_comm]
  simp only [val, Nat.mul_zero, Nat.add_zero]
theorem val_take_out {l : List Nat} {k : Nat} (h : l.length ≤ k) : val (l.take (k + 1)) = val (l.take k) := by
  rw [List.take_of_length_le h, List.take_of_length_le (by omega)]
theorem val_take_succ' (l : List Nat) (k : Nat) : val (l.take (k + 1)) = val (l.take k) + wd l k * Wp k := by
  by_cases h : k < l.length
  · exact val_take_succ h
  · rw [val_take_out (by omega), wd_out (by omega)]; simp
theorem val_take_set {l : List Nat} {k x : Nat} (h : k < l.length) : val ((l.set k x).take (k + 1)) = val (l.take k) + x * Wp k := by
  rw [val_take_succ (by simpa using h), wd_set_eq h, List.take_set_of_le (Nat.le_refl _)]
theorem val_take_set_le {l : List Nat} {k j x : Nat} (h : j ≤ k) : val ((l.set k x).take j) = val (l.take j) := by
  rw [List.take_set_of_le h]
theorem val_take_all {l : List Nat} {k : Nat} (h : l.length ≤ k) : val (l.take k) = val l := by rw [List.take_of_length_le h]
theorem val_split (l : List Nat) (k : Nat) : val l = val (l.take k) + Wp (min k l.length) * val (l.drop k) := by
  conv => lhs; rw [← List.take_append_drop k l]
  rw [val_append, List.length_take]
theorem val_take_lt {l : List Nat} (h : B32 l) (k : Nat) : val (l.take k) < Wp k :=
  Nat.lt_of_lt_of_le (val_lt (B32_take h k)) (Wp_mono (by rw [List.length_take]; omega))

/-- the places without the noughts at the end -/
def trimN (l : List Nat) : Nat → Nat
  | 0 => 0
  | n + 1 => if wd l n = 0 then trimN l n else n + 1
theorem trimN_le (l : List Nat) (n : Nat) : trimN l n ≤ n := by
  induction n with
  | zero => simp [trimN]
  | succ n ih => simp only [trimN]; split <;> omega
theorem val_trimN (l : List Nat) (n : Nat) : val (l.take (trimN l n)) = val (l.take n) := by
  induction n with
  | zero => rfl
  | succ n ih =>
    simp only [trimN]
    split
    · rename_i h; rw [ih, val_take_succ', h]; simp
    · rfl
/-- a list without noughts at its end -/
def Nrm (l : List Nat) : Prop := l = [] ∨ wd l (l.length - 1) ≠ 0
theorem Nrm_nil : Nrm [] := .inl rfl
theorem Nrm_tail {x : Nat} {l : List Nat} (h : Nrm (x :: l)) : Nrm l := by
  cases l with
  | nil => exact .inl rfl
  | cons y l =>
    right
    rcases h with h | h
    · cases h
    · simpa [wd] using h
theorem digs_val {l : List Nat} (hb : B32 l) (hn : Nrm l) : digs (val l) = l := by
  induction l with
  | nil => simp [val, digs_zero]
  | cons x l ih =>
    have hx := B32_head hb
    have ih := ih (B32_tail hb) (Nrm_tail hn)
    have hne : val (x :: l) ≠ 0 := by
      intro h0
      simp only [val] at h0
      have hx0 : x = 0 := by omega
      have hl0 : val l = 0 := by omega
      rw [hl0, digs_zero] at ih
      subst ih
      rcases hn with h | h
      · cases h
      · simp [wd] at h; omega
    rw [digs_pos hne]
    simp only [val]
    rw [show (x + 4294967296 * val l) % 4294967296 = x by omega, show (x + 4294967296 * val l) / 4294967296 = val l by omega, ih]
theorem Nrm_digs (n : Nat) : Nrm (digs n) := by
  induction n using Nat.strongRecOn with
  | ind n ih =>
    by_cases h : n = 0
    · subst h; rw [digs_zero]; exact .inl rfl
    · right
      rw [digs_pos h]
      rcases ih (n / 4294967296) (by omega) with h2 | h2
      · rw [h2]
        have : n / 4294967296 = 0 := by have := val_digs (n / 4294967296); rw [h2] at this; simpa [val] using this.symm
        simp [wd]; omega
      · cases hd : digs (n / 4294967296) with
        | nil =>
          have : n / 4294967296 = 0 := by have := val_digs (n / 4294967296); rw [hd] at this; simpa [val] using this.symm
          simp [wd]; omega
        | cons y l => rw [hd] at h2; simpa [wd] using h2
theorem Nrm_trim (l : List Nat) (n : Nat) (hn : n ≤ l.length) : Nrm (l.take (trimN l n)) := by
  induction n with
  | zero => left; simp [trimN]
  | succ n ih =>
    simp only [trimN]
    split
    · exact ih (by omega)
    · rename_i h
      right
      rw [List.length_take, Nat.min_eq_left hn, Nat.add_sub_cancel, wd_take (by omega)]
      exact h
theorem trim_digs {l : List Nat} (hb : B32 l) : l.take (trimN l l.length) = digs (val l) := by
  have h := digs_val (B32_take hb (trimN l l.length)) (Nrm_trim l l.length (Nat.le_refl _))
  rw [val_trimN, List.take_of_length_le (Nat.le_refl _)] at h
  exact h.symm
theorem trim_len {l : List Nat} (hb : B32 l) : trimN l l.length = (digs (val l)).length := by
  rw [← trim_digs hb, List.length_take]; have := trimN_le l l.length; omega
theorem trim_full {l : List Nat} (hb : B32 l) : trimN l l.length = l.length ↔ l = digs (val l) := by
  constructor
  · intro h
    have := trim_digs hb; rw [h, List.take_of_length_le (Nat.le_refl _)] at this; exact this
  · intro h
    rw [trim_len hb, ← h]
theorem digs_len_le {n k : Nat} : (digs n).length ≤ k ↔ n < Wp k := by
  constructor
  · intro h
    have := val_lt (B32_digs n); rw [val_digs] at this
    exact Nat.lt_of_lt_of_le this (Wp_mono h)
  · induction k generalizing n with
    | zero => intro h; rw [Wp_zero] at h; have : n = 0 := by omega
              subst this; simp [digs_zero]
    | succ k ih =>
      intro h
      by_cases h0 : n = 0
      · subst h0; simp [digs_zero]
      · rw [digs_pos h0, List.length_cons]
        have := ih (n := n / 4294967296) (by rw [Wp_succ] at h; exact Nat.div_lt_of_lt_mul h)
        omega
theorem digs_len_lt {n k : Nat} : k < (digs n).length ↔ Wp k ≤ n := by
  have := @digs_len_le n k
  omega
theorem digs_inj {a b : Nat} (h : digs a = digs b) : a = b := by rw [← val_digs a, ← val_digs b, h]
theorem digs_nil {n : Nat} : digs n = [] ↔ n = 0 := by
  constructor
  · intro h; have := val_digs n; rw [h] at this; simpa [val] using this.symm
  · rintro rfl; exact digs_zero
theorem digs_len0 {n : Nat} : (digs n).length = 0 ↔ n = 0 := by rw [List.length_eq_zero_iff, digs_nil]
theorem digs_one {n : Nat} (h0 : n ≠ 0) (h : n < 4294967296) : digs n = [n] := by
  rw [digs_pos h0, Nat.mod_eq_of_lt h, Nat.div_eq_of_lt h, digs_zero]

/-- the order of lists without noughts at the end: by length, then from the last word down -/
def cmpN (x y : Nat) : Int := if x < y then -1 else if x = y then 0 else 1
theorem top_lt {a b : List Nat} (hb : B32 b) {k : Nat} (hk : k < a.length) (hlt : wd a k > wd b k) (hd : a.drop (k + 1) = b.drop (k + 1)) (hbB : k < b.length) (hl : a.length = b.length) : val b < val a := by
  rw [val_split a (k + 1), val_split b (k + 1), hd, hl, val_take_succ hk, val_take_succ hbB]
  have h1 := val_take_lt hb k
  have h2 : (wd b k + 1) * Wp k ≤ wd a k * Wp k := Nat.mul_le_mul_right _ hlt
  rw [Nat.add_mul] at h2
  omega

theorem val_ge {l : List Nat} (h : wd l (l.length - 1) ≠ 0) : Wp (l.length - 1) ≤ val l := by
  have hl : 0 < l.length := by
    rcases Nat.eq_zero_or_pos l.length with h0 | h0
    · exact absurd (wd_out (by omega)) h
    · exact h0
  have h1 := val_take_succ (l := l) (k := l.length - 1) (by omega)
  rw [Nat.sub_add_cancel hl, List.take_length] at h1
  rw [h1]
  have : 1 * Wp (l.length - 1) ≤ wd l (l.length - 1) * Wp (l.length - 1) := Nat.mul_le_mul_right _ (by omega)
  omega
theorem len_lt {a b : List Nat} (ha : B32 a) (hb : Nrm b) (h : a.length < b.length) : val a < val b := by
  rcases hb with rfl | hb
  · simp at h
  · have h1 := val_ge hb
    have h2 := val_lt ha
    have h3 := Wp_mono (show a.length ≤ b.length - 1 by omega)
    omega
theorem drop_wd {l : List Nat} {k : Nat} (h : k < l.length) : l.drop k = wd l k :: l.drop (k + 1) := by
  rw [List.drop_eq_getElem_cons h, wd_get h]
theorem Nrm_of_digs {l : List Nat} (h : l = digs (val l)) : Nrm l := by rw [h]; exact Nrm_digs _
theorem val_inj {a b : List Nat} (ha : a = digs (val a)) (hb : b = digs (val b)) (h : val a = val b) : a = b := by rw [ha, hb, h]
theorem cmpN_self (x : Nat) : cmpN x x = 0 := by simp [cmpN]
theorem cmpN_lt {x y : Nat} (h : x < y) : cmpN x y = -1 := by simp [cmpN, h]
theorem cmpN_gt {x y : Nat} (h : y < x) : cmpN x y = 1 := by simp [cmpN, show ¬ x < y by omega, show ¬ x = y by omega]

theorem bit31 {v : Nat} (h : v < 4294967296) : v.testBit 31 = decide (2147483648 ≤ v) := by
  rw [Nat.testBit_eq_decide_div_mod_eq]
  by_cases h1 : 2147483648 ≤ v
  · rw [decide_eq_true h1, decide_eq_true (by omega)]
  · rw [decide_eq_false h1, decide_eq_false (by omega)]
theorem top_bit {v : Nat} (h : v < 4294967296) : v / 2147483648 = (v.testBit 31).toNat := by
  rw [bit31 h]
  by_cases h1 : 2147483648 ≤ v
  · rw [decide_eq_true h1]; simp; omega
  · rw [decide_eq_false h1]; simp; omega
def sdf32 (x y z : Nat) : Nat := (x + 8589934592 - y - z) % 4294967296
def bor32 (x y z : Nat) : Nat := if x < y + z then 1 else 0
theorem sub_borrow {x y z d : Nat} (hx : x < 4294967296) (hy : y < 4294967296) (hz : z ≤ 1) (hd : d = (x + 8589934592 - y - z) % 4294967296) :
    (((4294967295 ^^^ x) &&& y) ||| ((4294967295 ^^^ (x ^^^ y)) &&& d)) / 2147483648 = bor32 x y z := by
  have hd2 : d < 4294967296 := by omega
  have h1 : (4294967295 ^^^ x) < 2 ^ 32 := Nat.xor_lt_two_pow (by omega) (by omega)
  have h2 : (4294967295 ^^^ (x ^^^ y)) < 2 ^ 32 := Nat.xor_lt_two_pow (by omega) (Nat.xor_lt_two_pow (by omega) (by omega))
  have h3 : ((4294967295 ^^^ x) &&& y) < 2 ^ 32 := Nat.and_lt_two_pow _ (by omega)
  have h4 : ((4294967295 ^^^ (x ^^^ y)) &&& d) < 2 ^ 32 := Nat.and_lt_two_pow _ (by omega)
  have h5 := Nat.or_lt_two_pow h3 h4
  rw [top_bit (by omega)]
  simp only [Nat.testBit_or, Nat.testBit_and, Nat.testBit_xor, bit31 hx, bit31 hy, bit31 hd2, bit31 (show 4294967295 < 4294967296 by omega)]
  unfold bor32
  by_cases c1 : 2147483648 ≤ x <;> by_cases c2 : 2147483648 ≤ y <;> by_cases c3 : 2147483648 ≤ d <;> simp [c1, c2, c3] <;> omega

/-! ### sums -/
def addf (x y z : Nat) : Nat := (x + y + z) % 4294967296
def addc (x y z : Nat) : Nat := (x + y + z) / 4294967296
theorem addf_lt (x y z : Nat) : addf x y z < 4294967296 := Nat.mod_lt _ (by omega)
theorem addc_le {x y z : Nat} (hx : x < 4294967296) (hy : y < 4294967296) (hz : z ≤ 1) : addc x y z ≤ 1 := by unfold addc; omega
theorem add_eq (x y z : Nat) : addf x y z + addc x y z * 4294967296 = x + y + z := by unfold addf addc; omega
theorem plus_step {a b o : List Nat} {k q : Nat} (ho : k < o.length) (h : val (o.take k) + q * Wp k = val (a.take k) + val (b.take k)) :
    val ((o.set k (addf (wd a k) (wd b k) q)).take (k + 1)) + addc (wd a k) (wd b k) q * Wp (k + 1) = val (a.take (k + 1)) + val (b.take (k + 1)) := by
  rw [val_take_set ho, val_take_succ' a, val_take_succ' b, Wp_succ]
  have e := add_eq (wd a k) (wd b k) q
  generalize addf (wd a k) (wd b k) q = f at *
  generalize addc (wd a k) (wd b k) q = c at *
  have e2 : (f + c * 4294967296) * Wp k = (wd a k + wd b k + q) * Wp k := by rw [e]
  rw [Nat.add_mul, Nat.add_mul, Nat.add_mul] at e2
  have e3 : c * (4294967296 * Wp k) = c * 4294967296 * Wp k := by rw [Nat.mul_assoc]
  omega
theorem plus_end {a b o : List Nat} {n q : Nat} (ho : o.length = n + 1) (ha : a.length ≤ n) (hb : b.length ≤ n) (h : val (o.take n) + q * Wp n = val (a.take n) + val (b.take n)) :
    val (o.set n q) = val a + val b := by
  have h1 := val_take_set (l := o) (k := n) (x := q) (by omega)
  rw [val_take_all (by rw [List.length_set]; omega)] at h1
  rw [h1, h, val_take_all ha, val_take_all hb]

/-! ### differences -/
theorem sub_eq {x y z : Nat} (hx : x < 4294967296) (hy : y < 4294967296) (hz : z ≤ 1) : sdf32 x y z + y + z = x + bor32 x y z * 4294967296 := by
  unfold sdf32 bor32; split <;> omega
theorem sdf_lt (x y z : Nat) : sdf32 x y z < 4294967296 := by unfold sdf32; omega
theorem bor_le (x y z : Nat) : bor32 x y z ≤ 1 := by unfold bor32; split <;> omega
theorem less_step {a b o : List Nat} {k q : Nat} (ha : B32 a) (hb : B32 b) (hq : q ≤ 1) (ho : k < o.length) (h : val (o.take k) + val (b.take k) = val (a.take k) + q * Wp k) :
    val ((o.set k (sdf32 (wd a k) (wd b k) q)).take (k + 1)) + val (b.take (k + 1)) = val (a.take (k + 1)) + bor32 (wd a k) (wd b k) q * Wp (k + 1) := by
  rw [val_take_set ho, val_take_succ' a, val_take_succ' b, Wp_succ]
  have e := sub_eq (wd_lt ha k) (wd_lt hb k) hq
  generalize sdf32 (wd a k) (wd b k) q = f at *
  generalize bor32 (wd a k) (wd b k) q = c at *
  have e2 : (f + wd b k + q) * Wp k = (wd a k + c * 4294967296) * Wp k := by rw [e]
  rw [Nat.add_mul, Nat.add_mul, Nat.add_mul] at e2
  have e3 : c * (4294967296 * Wp k) = c * 4294967296 * Wp k := by rw [Nat.mul_assoc]
  omega
theorem less_end {a b o : List Nat} {q : Nat} (ho : o.length = a.length) (hoB : B32 o) (hb : b.length ≤ a.length) (hle : val b ≤ val a)
    (h : val (o.take a.length) + val (b.take a.length) = val (a.take a.length) + q * Wp a.length) : val o = val a - val b := by
  rw [val_take_all (by omega), val_take_all hb, val_take_all (Nat.le_refl _)] at h
  have h1 := val_lt hoB
  rw [ho] at h1
  have : q = 0 := by
    rcases Nat.eq_zero_or_pos q with h0 | h0
    · exact h0
    · have : 1 * Wp a.length ≤ q * Wp a.length := Nat.mul_le_mul_right _ h0
      omega
  subst this
  omega

/-! ### products -/
theorem val_set {o : List Nat} {k : Nat} (x : Nat) (h : k < o.length) : val (o.set k x) + wd o k * Wp k = val o + x * Wp k := by
  have h1 := val_split (o.set k x) (k + 1)
  have h2 := val_split o (k + 1)
  rw [val_take_set h, List.length_set, List.drop_set_of_lt (by omega)] at h1
  rw [val_take_succ h] at h2
  omega
theorem mul_le64 {x y : Nat} (hx : x < 4294967296) (hy : y < 4294967296) : x * y ≤ 18446744065119617025 := Nat.mul_le_mul (show x ≤ 4294967295 by omega) (show y ≤ 4294967295 by omega)
theorem times_step {b o o' : List Nat} {i j c v : Nat} (hk : i + j < o'.length) (x : Nat) (hv : v = c + (x * wd b j + wd o' (i + j))) (h : val o' + c * Wp (i + j) = val o + x * Wp i * val (b.take j)) :
    val (o'.set (i + j) (v % 4294967296)) + v / 4294967296 * Wp (i + j + 1) = val o + x * Wp i * val (b.take (j + 1)) := by
  have h1 := val_set (v % 4294967296) hk
  have e : v % 4294967296 + v / 4294967296 * 4294967296 = v := by omega
  generalize v % 4294967296 = f at *
  generalize v / 4294967296 = g at *
  rw [val_take_succ' b, Wp_succ, Nat.mul_add, ← Nat.add_assoc, ← h]
  have e2 : (f + g * 4294967296) * Wp (i + j) = (c + (x * wd b j + wd o' (i + j))) * Wp (i + j) := by rw [e, hv]
  rw [Nat.add_mul, Nat.add_mul, Nat.add_mul] at e2
  have e3 : g * (4294967296 * Wp (i + j)) = g * 4294967296 * Wp (i + j) := by rw [Nat.mul_assoc]
  have e4 : x * Wp i * (wd b j * Wp j) = x * wd b j * Wp (i + j) := by
    rw [Wp_add, Nat.mul_assoc, Nat.mul_assoc]
    congr 1
    rw [← Nat.mul_assoc, ← Nat.mul_assoc, Nat.mul_comm (Wp i)]
  omega
def tf (c x y o : Nat) : Nat := (c + (x * y + o)) % 4294967296
def tc (c x y o : Nat) : Nat := (c + (x * y + o)) / 4294967296
theorem mulI {x y : Nat} (hx : x < 4294967296) (hy : y < 4294967296) : 0 ≤ (x : Int) * (y : Int) ∧ (x : Int) * (y : Int) ≤ 18446744065119617025 := by
  have h := mul_le64 hx hy
  rw [← Int.natCast_mul]
  generalize x * y = p at *
  omega
theorem tf_int (c x y o : Nat) : ((c : Int) + ((x : Int) * (y : Int) + (o : Int))) % 4294967296 = (tf c x y o : Int) := by
  unfold tf; rw [← Int.natCast_mul]
  generalize x * y = p at *
  omega
theorem tc_int (c x y o : Nat) : ((c : Int) + ((x : Int) * (y : Int) + (o : Int))) / 4294967296 = (tc c x y o : Int) := by
  unfold tc; rw [← Int.natCast_mul]
  generalize x * y = p at *
  omega
theorem tf_lt (c x y o : Nat) : tf c x y o < 4294967296 := Nat.mod_lt _ (by omega)
theorem tc_lt {c x y o : Nat} (hc : c < 4294967296) (hx : x < 4294967296) (hy : y < 4294967296) (ho : o < 4294967296) : tc c x y o < 4294967296 := by
  have := mul_le64 hx hy; unfold tc; omega
theorem times_end {a b o o' : List Nat} {i c : Nat} (hk : i + b.length < o'.length) (hz : wd o' (i + b.length) = 0) (h : val o' + c * Wp (i + b.length) = val o + wd a i * Wp i * val (b.take b.length)) (h0 : val o = val (a.take i) * val b) :
    val (o'.set (i + b.length) c) = val (a.take (i + 1)) * val b := by
  have h1 := val_set c hk
  rw [hz, Nat.zero_mul, Nat.add_zero, h, List.take_length, h0, ← Nat.add_mul] at h1
  rw [h1, val_take_succ']

def uf (o x y c : Nat) : Nat := (o + x * y + c) % 4294967296
def uc (o x y c : Nat) : Nat := (o + x * y + c) / 4294967296
theorem uf_eq (o x y c : Nat) : uf o x y c = (c + (x * y + o)) % 4294967296 := by unfold uf; congr 1; omega
theorem uc_eq (o x y c : Nat) : uc o x y c = (c + (x * y + o)) / 4294967296 := by unfold uc; congr 1; omega
theorem uf_int (c x y o : Nat) : ((o : Int) + (x : Int) * (y : Int) + (c : Int)) % 4294967296 = (uf o x y c : Int) := by
  unfold uf; rw [← Int.natCast_mul]
  generalize x * y = p at *
  omega
theorem uc_int (c x y o : Nat) : ((o : Int) + (x : Int) * (y : Int) + (c : Int)) / 4294967296 = (uc o x y c : Int) := by
  unfold uc; rw [← Int.natCast_mul]
  generalize x * y = p at *
  omega
theorem uf_lt (c x y o : Nat) : uf c x y o < 4294967296 := Nat.mod_lt _ (by omega)
theorem uc_lt {c x y o : Nat} (hc : c < 4294967296) (hx : x < 4294967296) (hy : y < 4294967296) (ho : o < 4294967296) : uc o x y c < 4294967296 := by
  rw [uc_eq]; exact tc_lt hc hx hy ho
theorem rtimes_step {b o o' : List Nat} {i j c : Nat} (hk : i + j < o'.length) (x : Nat) (h : val o' + c * Wp (i + j) = val o + x * Wp i * val (b.take j)) :
    val (o'.set (i + j) (uf (wd o' (i + j)) x (wd b j) c)) + uc (wd o' (i + j)) x (wd b j) c * Wp (i + (j + 1)) = val o + x * Wp i * val (b.take (j + 1)) := by
  rw [uf_eq, uc_eq]
  exact times_step hk x rfl h
theorem rtimes_end {a b o o' : List Nat} {i : Nat} (h : val o' + 0 * Wp (i + (b.length + 1)) = val o + wd a i * Wp i * val (b.take (b.length + 1))) (h0 : val o = val (a.take i) * val b) :
    val o' = val (a.take (i + 1)) * val b := by
  rw [val_take_all (by omega)] at h
  rw [val_take_succ', Nat.add_mul, ← h0]; omega
theorem uc_zero {x c : Nat} (hc : c < 4294967296) : uc 0 x 0 c = 0 := by unfold uc; simp; omega

/-! ### bits -/
/-- how many bits a number has -/
def blen (n : Nat) : Nat := if h : n = 0 then 0 else blen (n / 2) + 1
termination_by n
decreasing_by omega
theorem blen_zero : blen 0 = 0 := by rw [blen]; simp
theorem blen_pos {n : Nat} (h : n ≠ 0) : blen n = blen (n / 2) + 1 := by rw [blen]; simp [h]
theorem blen_div {n : Nat} (k : Nat) (h : 2 ^ k ≤ n) : blen n = blen (n / 2 ^ k) + k := by
  induction k with
  | zero => simp
  | succ k ih =>
    have h1 : 2 ^ k ≤ n := Nat.le_trans (Nat.pow_le_pow_right (by omega) (by omega)) h
    rw [ih h1]
    have h2 : 2 ≤ n / 2 ^ k := by
      rw [Nat.le_div_iff_mul_le (Nat.pow_pos (by omega))]
      rw [Nat.pow_succ] at h; omega
    have e : n / 2 ^ k / 2 = n / 2 ^ (k + 1) := by rw [Nat.div_div_eq_div_mul, ← Nat.pow_succ]
    rw [blen_pos (by omega), e, Nat.add_assoc, Nat.add_comm 1 k]
theorem blen_lt (n : Nat) : n < 2 ^ blen n := by
  induction n using Nat.strongRecOn with
  | ind n ih =>
    by_cases h : n = 0
    · subst h; simp [blen_zero]
    · rw [blen_pos h, Nat.pow_succ]
      have := ih (n / 2) (by omega)
      omega
theorem blen_ge {n : Nat} (h : n ≠ 0) : 2 ^ (blen n - 1) ≤ n := by
  induction n using Nat.strongRecOn with
  | ind n ih =>
    rw [blen_pos h, Nat.add_sub_cancel]
    by_cases h1 : n / 2 = 0
    · rw [h1, blen_zero]; omega
    · have h2 := ih (n / 2) (by omega) h1
      have h3 : blen (n / 2) = (blen (n / 2) - 1) + 1 := by rw [blen_pos h1]; omega
      rw [h3, Nat.pow_succ]; omega
theorem blen_le {n k : Nat} : blen n ≤ k ↔ n < 2 ^ k := by
  constructor
  · intro h
    exact Nat.lt_of_lt_of_le (blen_lt n) (Nat.pow_le_pow_right (by omega) h)
  · intro h
    rcases Nat.lt_or_ge k (blen n) with h1 | h1
    · have hn : n ≠ 0 := by intro h0; subst h0; rw [blen_zero] at h1; omega
      have h2 := blen_ge hn
      have h3 := Nat.pow_le_pow_right (n := 2) (by omega) (show k ≤ blen n - 1 by omega)
      omega
    · exact h1
theorem wd_val {l : List Nat} (h : B32 l) (i : Nat) : wd l i = val l / Wp i % 4294967296 := by
  have h1 := val_split l (i + 1)
  rw [val_take_succ'] at h1
  have h2 := val_take_lt h i
  have h3 := wd_lt h i
  have hp := Wp_pos i
  by_cases hi : i < l.length
  · rw [Nat.min_eq_left (by omega), Wp_succ] at h1
    have e : val l = val (l.take i) + Wp i * (wd l i + 4294967296 * val (l.drop (i + 1))) := by
      rw [h1, Nat.mul_add, Nat.mul_comm (Wp i) (wd l i), ← Nat.mul_assoc, Nat.mul_comm (Wp i) 4294967296, Nat.add_assoc]
    rw [e, Nat.add_mul_div_left _ _ hp, Nat.div_eq_of_lt h2]
    omega
  · rw [wd_out (by omega)]
    have := val_lt h
    rw [Nat.div_eq_of_lt (Nat.lt_of_lt_of_le this (Wp_mono (by omega)))]
/-- the bit k of a number -/
def bitN (n k : Nat) : Nat := n / 2 ^ k % 2
theorem bitN_lt (n k : Nat) : bitN n k < 2 := Nat.mod_lt _ (by omega)
theorem bit_wd {l : List Nat} (h : B32 l) (k : Nat) : wd l (k / 32) / 2 ^ (k % 32) % 2 = bitN (val l) k := by
  rw [wd_val h, Wp_eq]
  unfold bitN
  generalize val l = n
  have hk : k = 32 * (k / 32) + k % 32 := by omega
  have hs : k % 32 < 32 := Nat.mod_lt _ (by omega)
  generalize k / 32 = i at *
  generalize k % 32 = s at *
  subst hk
  rw [Nat.pow_add, ← Nat.div_div_eq_div_mul]
  generalize n / 2 ^ (32 * i) = m
  have e : 4294967296 = 2 ^ s * 2 ^ (32 - s) := by rw [← Nat.pow_add]; rw [show s + (32 - s) = 32 by omega]
  rw [e, Nat.mod_mul_right_div_self]
  rw [show 32 - s = (31 - s) + 1 by omega, Nat.pow_succ, Nat.mul_comm]
  rw [Nat.mod_mul_right_mod]
theorem bitN_top {n k : Nat} (h : n < 2 ^ (k + 1)) : bitN n k = if 2 ^ k ≤ n then 1 else 0 := by
  unfold bitN
  rw [Nat.pow_succ] at h
  split
  · rename_i h1
    have : n / 2 ^ k = 1 := by
      apply Nat.div_eq_of_lt_le <;> omega
    rw [this]
  · rename_i h1
    rw [Nat.div_eq_of_lt (by omega)]
end Go.Proofs.Ytabcnpcfknlmlaa
