/- Plain law: a number's text, read, is the number. -/
import Derived.Test.YtkjfpaommbjgbaaRdP
namespace Go.Proofs.Ytkjfpaommbjgbaa

section
variable {isD : UInt8 → Bool} {rd : List UInt8 → List Nat × Int} {mk : Bool → List Nat → List Nat → Rw} {zz : Rw} {dt : Nat → List UInt8}
theorem take_dt {a r : List UInt8} (h : ∀ c ∈ a, isD c = true) (hr : ∀ c, r.head? = some c → isD c = false) : (a ++ r).takeWhile isD = a ∧ (a ++ r).dropWhile isD = r := by
  induction a with
  | nil =>
    cases r with
    | nil => exact ⟨rfl, rfl⟩
    | cons c r =>
      have := hr c rfl
      simp [this]
  | cons x a ih =>
    have h1 := h x (by simp)
    have h2 := ih fun c hc => h c (by simp [hc])
    simp [h1, h2.1, h2.2]
/-- a fraction's text without a sign -/
def fracT (dt : Nat → List UInt8) (t d : Nat) : List UInt8 := dt t ++ if d = 1 then [] else 47 :: dt d
def ratT (dt : Nat → List UInt8) (q : Rat) : List UInt8 := (if qn q = true then [45] else []) ++ fracT dt (qt q) (qd q)
/-- what is asked of digits -/
structure DigT (isD : UInt8 → Bool) (rd : List UInt8 → List Nat × Int) (dt : Nat → List UInt8) : Prop where
  dig : ∀ n, ∀ c ∈ dt n, isD c = true
  some_ : ∀ n, dt n ≠ []
  no : isD 43 = false ∧ isD 45 = false ∧ isD 47 = false ∧ isD 105 = false ∧ isD 73 = false
theorem DigT.take (h : DigT isD rd dt) (n : Nat) {r : List UInt8} (hr : ∀ c, r.head? = some c → isD c = false) : (dt n ++ r).takeWhile isD = dt n ∧ (dt n ++ r).dropWhile isD = r := take_dt (h.dig n) hr
theorem frac_text (h : DigT isD rd dt) (neg : Bool) {t d : Nat} (ht : rd (dt t) = (digs t, 0)) (hd : rd (dt d) = (digs d, 0)) (hd0 : d ≠ 0) {r : List UInt8} (hr : ∀ c, r.head? = some c → isD c = false ∧ c ≠ 47) :
    fracP isD rd mk neg (fracT dt t d ++ r) 0 = (mk neg (digs t) (digs d), true, r, 0) := by
  have hr1 : ∀ c, r.head? = some c → isD c = false := fun c hc => (hr c hc).1
  unfold fracT fracP
  by_cases h1 : d = 1
  · subst h1
    rw [if_pos rfl, List.append_nil]
    obtain ⟨e1, e2⟩ := h.take t hr1
    have hdg : digP isD rd (dt t ++ r) 0 = (digs t, true, r, 0) := by
      unfold digP
      rw [e1, e2, if_neg (h.some_ t), ht]; rfl
    rw [hdg]
    have hn : ¬ (true = true ∧ r.head? = some 47) := fun hh => (hr 47 hh.2).2 rfl
    dsimp only
    rw [if_neg hn, digs_one1]
  · rw [if_neg h1, List.append_assoc, List.cons_append]
    obtain ⟨e1, e2⟩ := h.take t (r := 47 :: (dt d ++ r)) (fun c hc => by simp at hc; subst hc; exact h.no.2.2.1)
    obtain ⟨e3, e4⟩ := h.take d hr1
    have hdg : digP isD rd (dt t ++ 47 :: (dt d ++ r)) 0 = (digs t, true, 47 :: (dt d ++ r), 0) := by
      unfold digP
      rw [e1, e2, if_neg (h.some_ t), ht]; rfl
    have hdg2 : digP isD rd (dt d ++ r) 0 = (digs d, true, r, 0) := by
      unfold digP
      rw [e3, e4, if_neg (h.some_ d), hd]; rfl
    have hne : digs d ≠ [] := fun e => hd0 (by have := val_digs d; rw [e] at this; exact this.symm)
    rw [hdg]
    dsimp only
    rw [if_pos ⟨rfl, rfl⟩, List.tail_cons, hdg2]
    dsimp only
    rw [if_neg hne]
/-- a text that begins with a digit -/
theorem fracT_head (h : DigT isD rd dt) (t d : Nat) (r : List UInt8) : ∃ c s, fracT dt t d ++ r = c :: s ∧ isD c = true := by
  unfold fracT
  cases e : dt t with
  | nil => exact absurd e (h.some_ t)
  | cons c s => exact ⟨c, (s ++ if d = 1 then [] else 47 :: dt d) ++ r, rfl, h.dig t c (by rw [e]; simp)⟩
theorem dig_unit (h : DigT isD rd dt) {c : UInt8} {s : List UInt8} (hc : isD c = true) : unitB (c :: s) = false ∧ sgnP (c :: s) = (false, false, c :: s) := by
  have h1 : c ≠ 105 := fun e => by subst e; rw [h.no.2.2.2.1] at hc; cases hc
  have h2 : c ≠ 73 := fun e => by subst e; rw [h.no.2.2.2.2] at hc; cases hc
  have h3 : c ≠ 43 := fun e => by subst e; rw [h.no.1] at hc; cases hc
  have h4 : c ≠ 45 := fun e => by subst e; rw [h.no.2.1] at hc; cases hc
  constructor
  · unfold unitB; simp [h1, h2]
  · unfold sgnP; simp [h3, h4]
/-- the text of a number -/
def imT (dt : Nat → List UInt8) (q : Rat) : List UInt8 := (if qn q = true then 45 else 43) :: (if qt q = 1 ∧ qd q = 1 then [] else fracT dt (qt q) (qd q))
def numT (dt : Nat → List UInt8) (p q : Rat) : List UInt8 :=
  if qt q = 0 then ratT dt p else (if qt p = 0 then [] else ratT dt p) ++ (imT dt q ++ [105])
theorem sgn_im (q : Rat) (s : List UInt8) : sgnP ((if qn q = true then 45 else 43) :: s) = (qn q, true, s) := by
  unfold sgnP
  cases qn q <;> rfl
theorem num_text (h : DigT isD rd dt) {p q : Rat} (hp : rd (dt (qt p)) = (digs (qt p), 0) ∧ rd (dt (qd p)) = (digs (qd p), 0)) (hq : rd (dt (qt q)) = (digs (qt q), 0) ∧ rd (dt (qd q)) = (digs (qd q), 0))
    (hmk : ∀ x : Rat, mk (qn x) (digs (qt x)) (digs (qd x)) = rwq x) (hz : zz = rwq 0) (hz0 : ∀ x : Rat, qt x = 0 → x = 0) : numP isD rd mk zz (numT dt p q) 0 = (rwq p, rwq q, true, 0) := by
  have hone : ∀ x : Rat, qt x = 1 → qd x = 1 → mk (qn x) [1] [1] = rwq x := fun x h1 h2 => by
    have := hmk x
    rwa [h1, h2, digs_one1] at this
  have r105 : ∀ c, ([105] : List UInt8).head? = some c → isD c = false ∧ c ≠ 47 := fun c hc => by
    simp at hc; subst hc; exact ⟨h.no.2.2.2.1, by decide⟩
  have rim : ∀ (s : List UInt8) c, ((if qn q = true then 45 else 43) :: s : List UInt8).head? = some c → isD c = false ∧ c ≠ 47 := fun s c hc => by
    simp only [List.head?_cons, Option.some.injEq] at hc
    subst hc
    cases qn q
    · exact ⟨h.no.1, by decide⟩
    · exact ⟨h.no.2.1, by decide⟩
  -- the imaginary part, its sign gone
  have him : ∀ (w : Int), w = 0 → ∀ s, s = (if qt q = 1 ∧ qd q = 1 then [] else fracT dt (qt q) (qd q)) ++ [105] →
      (unitB s = true ∧ mk (qn q) [1] [1] = rwq q) ∨ (unitB s = false ∧ fracP isD rd mk (qn q) s w = (rwq q, true, [105], 0)) := fun w hw s hs => by
    subst hw
    by_cases h1 : qt q = 1 ∧ qd q = 1
    · rw [if_pos h1, List.nil_append] at hs
      subst hs
      exact .inl ⟨rfl, hone q h1.1 h1.2⟩
    · rw [if_neg h1] at hs
      subst hs
      obtain ⟨c, s, e, hc⟩ := fracT_head (rd := rd) h (qt q) (qd q) [105]
      refine .inr ⟨by rw [e]; exact (dig_unit h hc).1, ?_⟩
      rw [frac_text h _ hq.1 hq.2 (qd_pos q) r105, hmk]
  have u105 : unitB [105] = true := rfl
  -- the real part, with its sign, and what is behind it
  have hre : ∀ (r : List UInt8), (∀ c, r.head? = some c → isD c = false ∧ c ≠ 47) → ∃ s, (sgnP (ratT dt p ++ r)).2.2 = s ∧ (sgnP (ratT dt p ++ r)).1 = qn p ∧ unitB s = false ∧ fracP isD rd mk (qn p) s 0 = (rwq p, true, r, 0) := fun r hr => by
    unfold ratT
    obtain ⟨c, s, e, hc⟩ := fracT_head (rd := rd) h (qt p) (qd p) r
    have hf : fracP isD rd mk (qn p) (fracT dt (qt p) (qd p) ++ r) 0 = (rwq p, true, r, 0) := by rw [frac_text h _ hp.1 hp.2 (qd_pos p) hr, hmk]
    cases hn : qn p with
    | true =>
      rw [if_pos rfl]
      refine ⟨fracT dt (qt p) (qd p) ++ r, ?_, ?_, by rw [e]; exact (dig_unit h hc).1, by rw [hn] at hf; exact hf⟩
      · simp [sgnP]
      · simp [sgnP]
    | false =>
      rw [if_neg (by decide), List.nil_append, e, (dig_unit h hc).2]
      rw [e, hn] at hf
      exact ⟨c :: s, rfl, rfl, (dig_unit h hc).1, hf⟩
  unfold numT
  by_cases h0 : qt q = 0
  · rw [if_pos h0]
    obtain ⟨s, e1, e2, e3, e4⟩ := hre [] (fun c hc => by cases hc)
    rw [List.append_nil] at e1 e2
    unfold numP
    rw [e1, e2, e3, e4, hz0 q h0, hz]
    simp
  rw [if_neg h0]
  by_cases h1 : qt p = 0
  · rw [if_pos h1, List.nil_append]
    unfold imT numP
    rw [List.cons_append, sgn_im, hz0 p h1, hz]
    dsimp only
    rcases him 0 rfl _ rfl with ⟨k1, k2⟩ | ⟨k1, k2⟩
    · rw [k1, k2]; simp
    · rw [k1, k2]; simp [u105]
  · rw [if_neg h1]
    unfold imT
    rw [List.cons_append]
    obtain ⟨s, e1, e2, e3, e4⟩ := hre _ (rim ((if qt q = 1 ∧ qd q = 1 then [] else fracT dt (qt q) (qd q)) ++ [105]))
    have hun : unitB ((if qn q = true then 45 else 43) :: ((if qt q = 1 ∧ qd q = 1 then [] else fracT dt (qt q) (qd q)) ++ [105])) = false := by
      unfold unitB
      cases qn q <;> simp
    unfold numP
    rw [e1, e2, e3, e4]
    dsimp only
    rw [hun, sgn_im]
    dsimp only
    rcases him 0 rfl _ rfl with ⟨k1, k2⟩ | ⟨k1, k2⟩
    · rw [k1, k2]; simp
    · rw [k1, k2]; simp [u105]
end
end Go.Proofs.Ytkjfpaommbjgbaa
