/- The plain reading of texts. -/
import Derived.Test.YtpknbgfekmdlfaaPlainD
import Derived.Test.YtpknbgfekmdlfaaPlainC
namespace Go.Proofs.Ytpknbgfekmdlfaa

/-- the byte at a place, as a number -/
def bt (l : List UInt8) (k : Nat) : Nat := (l.getD k 0).toNat
theorem bt_lt (l : List UInt8) (k : Nat) : bt l k < 256 := UInt8.toNat_lt _
/-- the number that digits are, behind acc -/
def rdv (b acc : Nat) (l : List UInt8) : Nat := l.foldl (fun n c => n * b + dval c.toNat) acc
theorem rdv_take {b : Nat} {l : List UInt8} {k : Nat} (h : k < l.length) : rdv b 0 (l.take (k + 1)) = rdv b 0 (l.take k) * b + dval (bt l k) := by
  unfold rdv bt
  rw [List.take_succ_eq_append_getElem h, List.foldl_append]
  simp [List.getD_eq_getElem?_getD, h]
theorem rdv_mono {b acc : Nat} (hb : 1 ≤ b) (l : List UInt8) : acc ≤ rdv b acc l := by
  induction l generalizing acc with
  | nil => exact Nat.le_refl _
  | cons c l ih =>
    have h1 : acc * 1 ≤ acc * b := Nat.mul_le_mul_left _ hb
    have h2 := ih (acc := acc * b + dval c.toNat)
    show acc ≤ rdv b (acc * b + dval c.toNat) l
    omega
theorem rdv_le {b : Nat} (hb : 1 ≤ b) (l : List UInt8) (k : Nat) : rdv b 0 (l.take k) ≤ rdv b 0 l := by
  conv => rhs; rw [← List.take_append_drop k l]
  unfold rdv
  rw [List.foldl_append]
  exact rdv_mono hb _
theorem rdv_rdg {b : Nat} (hb : 2 ≤ b) (hb2 : b ≤ 36) (n : Nat) : rdv b 0 (rdg b n).reverse = n ∧ ∀ c ∈ rdg b n, dval c.toNat < b := by
  induction n using Nat.strongRecOn with
  | ind n ih =>
    by_cases h0 : n = 0
    · subst h0; rw [rdg_zero]; exact ⟨rfl, fun c hc => by cases hc⟩
    · have hm : n % b < b := Nat.mod_lt _ (by omega)
      obtain ⟨i1, i2⟩ := ih (n / b) (Nat.div_lt_self (by omega) (by omega))
      rw [rdg_pos hb h0]
      constructor
      · rw [List.reverse_cons]
        unfold rdv at *
        rw [List.foldl_append, i1]
        simp only [List.foldl_cons, List.foldl_nil]
        rw [dval_dch (by omega), Nat.mul_comm]
        exact Nat.div_add_mod n b
      · intro c hc
        rcases List.mem_cons.1 hc with rfl | hc
        · rw [dval_dch (by omega)]; exact hm
        · exact i2 c hc
theorem rdv_txt {b : Nat} (hb : 2 ≤ b) (hb2 : b ≤ 36) (n : Nat) : rdv b 0 (txt b n) = n ∧ (∀ c ∈ txt b n, dval c.toNat < b) ∧ txt b n ≠ [] := by
  unfold txt
  split
  · rename_i h; subst h
    refine ⟨by show 0 * b + dval (48 : UInt8).toNat = 0; rw [Nat.zero_mul]; decide, fun c hc => ?_, by simp⟩
    rw [List.mem_singleton.1 hc]
    have : dval (48 : UInt8).toNat = 0 := by decide
    rw [this]; omega
  · rename_i h
    obtain ⟨h1, h2⟩ := rdv_rdg hb hb2 n
    refine ⟨h1, fun c hc => h2 c (List.mem_reverse.1 hc), ?_⟩
    rw [rdg_pos hb h]; simp
/-- all bytes are digits -/
def okd (b : Nat) (l : List UInt8) : Bool := l.all fun c => decide (dval c.toNat < b)
theorem okd_take {b : Nat} {l : List UInt8} {k : Nat} (h : k < l.length) : okd b (l.take (k + 1)) = (okd b (l.take k) && decide (dval (bt l k) < b)) := by
  unfold okd bt
  rw [List.take_succ_eq_append_getElem h, List.all_append]
  simp [List.getD_eq_getElem?_getD, h]
theorem okd_false {b : Nat} {l : List UInt8} {k : Nat} (h : k < l.length) (hd : ¬ dval (bt l k) < b) : okd b l = false := by
  unfold okd
  rw [List.all_eq_false]
  refine ⟨l[k], List.getElem_mem h, ?_⟩
  unfold bt at hd
  simp [List.getD_eq_getElem?_getD, h] at hd
  simp; omega

/-! ### times a digit, and a digit more -/
def mcf (c x b : Nat) : Nat := (c + x * b) % 4294967296
def mcc (c x b : Nat) : Nat := (c + x * b) / 4294967296
theorem mcf_lt (c x b : Nat) : mcf c x b < 4294967296 := Nat.mod_lt _ (by omega)
theorem mcc_lt {c x b : Nat} (hc : c ≤ 99) (hx : x < 4294967296) (hb : b ≤ 36) : mcc c x b ≤ 99 := by
  have := Nat.mul_le_mul (show x ≤ 4294967295 by omega) hb
  unfold mcc; omega
theorem mcI {c x b : Nat} (hc : c ≤ 99) (hx : x < 4294967296) (hb : b ≤ 36) : 0 ≤ (x : Int) * (b : Int) ∧ (x : Int) * (b : Int) ≤ 154618822620 := by
  have h := Nat.mul_le_mul (show x ≤ 4294967295 by omega) hb
  rw [← Int.natCast_mul]
  generalize x * b = p at *
  omega
theorem mcf_int (c x b : Nat) : ((c : Int) + (x : Int) * (b : Int)) % 4294967296 = (mcf c x b : Int) := by
  unfold mcf; rw [← Int.natCast_mul]; generalize x * b = p; omega
theorem mcc_int (c x b : Nat) : ((c : Int) + (x : Int) * (b : Int)) / 4294967296 = (mcc c x b : Int) := by
  unfold mcc; rw [← Int.natCast_mul]; generalize x * b = p; omega
/-- as far as the place j the words are turned -/
def Mul1 (l o : List Nat) (j b d q : Nat) : Prop := o.length = l.length ∧ (∀ t, j ≤ t → wd o t = wd l t) ∧ val (o.take j) + q * Wp j = d + val (l.take j) * b
theorem Mul1_step {l o : List Nat} {j b d q : Nat} (hj : j < o.length) (h : Mul1 l o j b d q) : Mul1 l (o.set j (mcf q (wd o j) b)) (j + 1) b d (mcc q (wd o j) b) := by
  refine ⟨by rw [List.length_set]; exact h.1, fun t ht => by rw [wd_set_ne (by omega)]; exact h.2.1 t (by omega), ?_⟩
  have h3 := h.2.2
  have hw := h.2.1 j (Nat.le_refl _)
  rw [val_take_set hj, val_take_succ' l, Wp_succ, ← hw]
  have e : mcf q (wd o j) b + mcc q (wd o j) b * 4294967296 = q + wd o j * b := by unfold mcf mcc; omega
  generalize mcf q (wd o j) b = f at *
  generalize mcc q (wd o j) b = g at *
  have e2 : (f + g * 4294967296) * Wp j = (q + wd o j * b) * Wp j := by rw [e]
  rw [Nat.add_mul, Nat.add_mul] at e2
  have e3 : g * (4294967296 * Wp j) = g * 4294967296 * Wp j := by rw [Nat.mul_assoc]
  have e4 : (val (l.take j) + wd o j * Wp j) * b = val (l.take j) * b + wd o j * b * Wp j := by
    rw [Nat.add_mul]; congr 1; rw [Nat.mul_assoc, Nat.mul_assoc, Nat.mul_comm (Wp j)]
  rw [e3, e4]
  omega
theorem Mul1_end {N b d q : Nat} {o : List Nat} (hb : 1 ≤ b) (hq : q < 4294967296) (hB : B32 o) (h : Mul1 (digs N) o (digs N).length b d q) :
    (q = 0 → o = digs (N * b + d)) ∧ (q ≠ 0 → o ++ [q] = digs (N * b + d)) := by
  have h3 := h.2.2
  have hl := h.1
  rw [List.take_length, val_digs, val_take_all (by omega)] at h3
  constructor
  · intro h0
    subst h0
    rw [Nat.zero_mul, Nat.add_zero] at h3
    have h4 : val o = N * b + d := by omega
    rw [← h4]
    refine (digs_val hB ?_).symm
    by_cases hz : o.length = 0
    · left; exact List.eq_nil_of_length_eq_zero hz
    · right
      intro hw
      obtain ⟨j, hj⟩ : ∃ j, o.length = j + 1 := ⟨o.length - 1, by omega⟩
      rw [hj, Nat.add_sub_cancel] at hw
      have h5 := val_take_succ (l := o) (k := j) (by omega)
      rw [← hj, List.take_length, hw] at h5
      have h6 := val_take_lt hB j
      have h7 : Wp j ≤ N := digs_len_lt.1 (by omega)
      have h8 : N * 1 ≤ N * b := Nat.mul_le_mul_left _ hb
      omega
  · intro h0
    have h4 : val (o ++ [q]) = N * b + d := by rw [val_append, val_one, Nat.mul_comm, hl]; omega
    rw [← h4]
    refine (digs_val (B32_append hB (B32_cons hq B32_nil)) ?_).symm
    right
    rw [List.length_append, List.length_singleton, Nat.add_sub_cancel]
    have := wd_append_right (a := o) (b := [q]) (k := 0)
    rw [Nat.add_zero, wd_zero] at this
    rw [this]; exact h0
end Go.Proofs.Ytpknbgfekmdlfaa
