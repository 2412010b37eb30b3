/- Plain law: reading and writing numbers in the radices there are. -/
import Derived.Test.YtkjfpaommbjgbaaRdQ
import Derived.Test.YtkjfpaommbjgbaaGC
namespace Go.Proofs.Ytkjfpaommbjgbaa

def isDr (r : Nat) (c : UInt8) : Bool := decide (dval c.toNat < r)
def rdr (r : Nat) (ds : List UInt8) : List Nat × Int := (digs (readA ds (r : Int)).1, (readA ds (r : Int)).2)
def mkr (neg : Bool) (t b : List Nat) : Rw := rwq (ratN neg (val t) (val b))
theorem rdr_err {r : Nat} (h1 : 2 ≤ r) (h2 : r ≤ 36) (ds : List UInt8) (hn : ds ≠ []) (ha : ds.all (isDr r) = true) : (rdr r ds).2 = 0 ∨ (rdr r ds).2 = 4 := by
  unfold rdr readA
  rw [if_neg (by omega), if_neg hn, Int.toNat_natCast]
  have hk : okd r ds = true := ha
  by_cases hl : ds.length > 16384
  · rw [readD_long hk hl]; exact .inr rfl
  · rw [readD_fit hk hl]
    unfold fitA
    split
    · exact .inl rfl
    · exact .inr rfl
theorem num_body_r {r : Nat} (h1 : 2 ≤ r) (h2 : r ≤ 36) (s : List UInt8) :
    (bodyR (isDr r) (rdr r) mkr (rwq 0) s = none → (numP (isDr r) (rdr r) mkr (rwq 0) s 0).2.2.1 = false) ∧
    (∀ re im e, bodyR (isDr r) (rdr r) mkr (rwq 0) s = some (re, im, e) → ∃ re' im', numP (isDr r) (rdr r) mkr (rwq 0) s 0 = (re', im', true, e) ∧ (e = 0 → re' = re ∧ im' = im)) :=
  num_body (rdr_err h1 h2) s
theorem digT_r {r : Nat} (h1 : 2 ≤ r) (h2 : r ≤ 16) : DigT (isDr r) (rdr r) (txt r) := by
  refine ⟨fun n c hc => decide_eq_true ((rdv_txt h1 (by omega) n).2.1 c hc), fun n => (rdv_txt h1 (by omega) n).2.2, ?_⟩
  unfold isDr
  have e1 : dval (43 : UInt8).toNat = 99 := by decide
  have e2 : dval (45 : UInt8).toNat = 99 := by decide
  have e3 : dval (47 : UInt8).toNat = 99 := by decide
  have e4 : dval (105 : UInt8).toNat = 18 := by decide
  have e5 : dval (73 : UInt8).toNat = 18 := by decide
  rw [e1, e2, e3, e4, e5]
  exact ⟨decide_eq_false (by omega), decide_eq_false (by omega), decide_eq_false (by omega), decide_eq_false (by omega), decide_eq_false (by omega)⟩
theorem txt_lenK {r : Nat} (h1 : 2 ≤ r) {n k : Nat} (hk : 1 ≤ k) (h : n < 2 ^ k) : (txt r n).length ≤ k := by
  unfold txt
  split
  · simpa using hk
  · rw [List.length_reverse]; exact rdg_len h1 n k h
theorem wp_two (k : Nat) : Wp k = 2 ^ (32 * k) := by rw [Nat.pow_mul]; rfl
theorem rdr_txt {r : Nat} (h1 : 2 ≤ r) (h2 : r ≤ 36) {n : Nat} (hn : (digs n).length ≤ 512) : rdr r (txt r n) = (digs n, 0) := by
  obtain ⟨e1, e2, e3⟩ := rdv_txt h1 h2 n
  have hk : okd r (txt r n) = true := List.all_eq_true.2 fun c hc => decide_eq_true (e2 c hc)
  have hl : ¬ (txt r n).length > 16384 := by
    have h3 := digs_len_le.1 hn
    rw [wp_two] at h3
    have := txt_lenK h1 (k := 32 * 512) (by omega) h3
    omega
  unfold rdr readA
  rw [if_neg (by omega), if_neg e3, Int.toNat_natCast, readD_fit hk hl, e1]
  unfold fitA
  rw [if_pos hn]
theorem mkr_self (x : Rat) : mkr (qn x) (digs (qt x)) (digs (qd x)) = rwq x := by
  unfold mkr
  rw [val_digs, val_digs, q_self]
/-- the text of a number that fits, read, is the number -/
theorem text_read {r : Nat} (h1 : 2 ≤ r) (h2 : r ≤ 16) {p q : Rat} (hp : qw p ≤ 512) (hq : qw q ≤ 512) : numP (isDr r) (rdr r) mkr (rwq 0) (numT (txt r) p q) 0 = (rwq p, rwq q, true, 0) := by
  unfold qw at hp hq
  refine num_text (digT_r h1 h2) ⟨rdr_txt h1 (by omega) (by omega), rdr_txt h1 (by omega) (by omega)⟩ ⟨rdr_txt h1 (by omega) (by omega), rdr_txt h1 (by omega) (by omega)⟩ mkr_self rfl fun x hx => qt_zero.1 hx
theorem txt_one {r : Nat} (h1 : 2 ≤ r) : txt r 1 = [49] := by
  unfold txt
  rw [if_neg (by decide), rdg_pos h1 (by decide), Nat.mod_eq_of_lt (by omega), Nat.div_eq_of_lt (by omega), rdg_zero]
  rfl
/-- a fraction's text is 1 just for 1 -/
theorem frac_one {r : Nat} (h1 : 2 ≤ r) (h2 : r ≤ 36) {t d : Nat} : fracT (txt r) t d = [49] ↔ t = 1 ∧ d = 1 := by
  unfold fracT
  constructor
  · intro h
    by_cases hd : d = 1
    · rw [if_pos hd, List.append_nil] at h
      have := (rdv_txt h1 h2 t).1
      rw [h] at this
      refine ⟨?_, hd⟩
      rw [← this]
      simp [rdv]
      decide
    · rw [if_neg hd] at h
      have := congrArg List.length h
      have h3 := (rdv_txt h1 h2 t).2.2
      have h4 : 0 < (txt r t).length := List.length_pos_iff.2 h3
      simp at this
      omega
  · rintro ⟨rfl, rfl⟩
    rw [if_pos rfl, List.append_nil, txt_one h1]
end Go.Proofs.Ytkjfpaommbjgbaa
