/- Plain law of ExactTexts: the text as the program makes it, as the reference does, and what reading it gives. -/
import Derived.Test.YtkjfpaommbjgbaaRdT
namespace Go.Proofs.Ytkjfpaommbjgbaa

/-- the imaginary part as the program makes it -/
def imS (dt : Nat → List UInt8) (q : Rat) : List UInt8 := if qn q = true then ratT dt q else 43 :: ratT dt q
def imP (dt : Nat → List UInt8) (q : Rat) : List UInt8 := if (imS dt q).tail = [49] then (imS dt q).take 1 else imS dt q
theorem imS_eq (dt : Nat → List UInt8) (q : Rat) : imS dt q = (if qn q = true then 45 else 43) :: fracT dt (qt q) (qd q) := by
  unfold imS ratT
  cases qn q <;> simp
theorem imP_eq {r : Nat} (h1 : 2 ≤ r) (h2 : r ≤ 36) (q : Rat) : imP (txt r) q = imT (txt r) q := by
  unfold imP imT
  rw [imS_eq, List.tail_cons]
  by_cases h : qt q = 1 ∧ qd q = 1
  · rw [if_pos ((frac_one h1 h2).2 h), if_pos h]; rfl
  · rw [if_neg (fun h3 => h ((frac_one h1 h2).1 h3)), if_neg h]
/-- the imaginary part as the reference makes it -/
def imR (dt : Nat → List UInt8) (q : Rat) : List UInt8 := if q = 1 then [43] else if q = -1 then [45] else if qn q = true then ratT dt q else 43 :: ratT dt q
theorem imR_eq (dt : Nat → List UInt8) (q : Rat) : imR dt q = imT dt q := by
  unfold imR imT
  by_cases h1 : q = 1
  · subst h1
    rw [if_pos rfl, if_neg (show ¬ qn 1 = true by decide), if_pos (show qt 1 = 1 ∧ qd 1 = 1 by decide)]
  rw [if_neg h1]
  by_cases h2 : q = -1
  · subst h2
    rw [if_pos rfl, if_pos (show qn (-1) = true by decide), if_pos (show qt (-1) = 1 ∧ qd (-1) = 1 by decide)]
  rw [if_neg h2]
  have h3 : ¬ (qt q = 1 ∧ qd q = 1) := by
    rintro ⟨a, b⟩
    have := q_self q
    rw [a, b] at this
    cases hn : qn q with
    | true => rw [hn] at this; exact h2 (this.symm.trans (by decide))
    | false => rw [hn] at this; exact h1 (this.symm.trans (by decide))
  rw [if_neg h3]
  exact imS_eq dt q
/-- Text of anything: as both sides go -/
def textQ (r i : Rw) (radix : Nat) (ok : Bool) : List UInt8 × Int :=
  if nB r i = false then ([], 2) else if ok = false then ([], 1) else (numT (txt radix) (qv r) (qv i), 0)
theorem pre_none {r : Nat} {s : List UInt8} (h : ∀ c, s.head? = some c → c ≠ 35) : preF r false false s = some (r, s) := by
  match s with
  | [] => rfl
  | [a] => unfold preF; rw [if_neg (h a rfl)]
  | a :: c :: t => unfold preF; rw [if_neg (h a rfl)]
theorem head_num {r : Nat} (h1 : 2 ≤ r) (h2 : r ≤ 16) (p q : Rat) : ∀ c, (numT (txt r) p q).head? = some c → c ≠ 35 := by
  have hd : isDr r 35 = false := decide_eq_false (by have : dval (35 : UInt8).toNat = 99 := by decide
                                                     omega)
  have hf : ∀ (x : Rat) (t : List UInt8) c, (ratT (txt r) x ++ t).head? = some c → c ≠ 35 := by
    intro x t c hc
    unfold ratT at hc
    obtain ⟨c', s', e, hc'⟩ := fracT_head (digT_r h1 h2) (qt x) (qd x) t
    rw [List.append_assoc, e] at hc
    cases hn : qn x with
    | true => rw [hn] at hc; simp at hc; subst hc; decide
    | false =>
      rw [hn] at hc
      simp at hc
      subst hc
      rintro rfl
      rw [hd] at hc'
      cases hc'
  intro c hc
  unfold numT at hc
  split at hc
  · exact hf p [] c (by rw [List.append_nil]; exact hc)
  · split at hc
    · unfold imT at hc
      simp only [List.nil_append, List.cons_append, List.head?_cons, Option.some.injEq] at hc
      subst hc
      split <;> decide
    · exact hf p _ c hc
/-- the text of a sound number, read in its radix, is the number -/
theorem read_text {r : Nat} (hr : rdOk r) {p q : Rat} (hp : qw p ≤ 512) (hq : qw q ≤ 512) (hl : (numT (txt r) p q).length ≤ 16384) : readQ (numT (txt r) p q) r = (rwq p, rwq q, 0) := by
  unfold readQ
  rw [pre_none (head_num hr.le.1 hr.le.2 p q)]
  dsimp only
  rw [text_read hr.le.1 hr.le.2 hp hq]
  dsimp only
  rw [if_neg (by simp), if_neg (by omega), if_neg (by simp), qv_rwq, qv_rwq, fitQ_ok hp hq]
end Go.Proofs.Ytkjfpaommbjgbaa
