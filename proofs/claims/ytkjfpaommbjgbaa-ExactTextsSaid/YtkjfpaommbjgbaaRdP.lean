/- Plain law: the program's reading of a number's text (a rest that shrinks, the worst error so far), and the reference's (pieces). -/
import Derived.Test.YtkjfpaommbjgbaaGF
namespace Go.Proofs.Ytkjfpaommbjgbaa

section
variable (isD : UInt8 → Bool) (rd : List UInt8 → List Nat × Int) (mk : Bool → List Nat → List Nat → Rw) (zz : Rw)
/-- the digits that a text begins with -/
def digP (s : List UInt8) (w : Int) : List Nat × Bool × List UInt8 × Int :=
  if s.takeWhile isD = [] then ([], false, s, w) else ((rd (s.takeWhile isD)).1, true, s.dropWhile isD, if (rd (s.takeWhile isD)).2 ≠ 0 then 4 else w)
/-- digits, perhaps / and digits -/
def fracP (neg : Bool) (s : List UInt8) (w : Int) : Rw × Bool × List UInt8 × Int :=
  if (digP isD rd s w).2.1 = true ∧ (digP isD rd s w).2.2.1.head? = some 47 then
    (if (digP isD rd (digP isD rd s w).2.2.1.tail (digP isD rd s w).2.2.2).1 = [] then
      (mk neg (digP isD rd s w).1 [1], (digP isD rd (digP isD rd s w).2.2.1.tail (digP isD rd s w).2.2.2).2.1, (digP isD rd (digP isD rd s w).2.2.1.tail (digP isD rd s w).2.2.2).2.2.1,
        if (digP isD rd (digP isD rd s w).2.2.1.tail (digP isD rd s w).2.2.2).2.1 = true ∧ (digP isD rd (digP isD rd s w).2.2.1.tail (digP isD rd s w).2.2.2).2.2.2 = 0 then 3 else (digP isD rd (digP isD rd s w).2.2.1.tail (digP isD rd s w).2.2.2).2.2.2)
    else (mk neg (digP isD rd s w).1 (digP isD rd (digP isD rd s w).2.2.1.tail (digP isD rd s w).2.2.2).1, (digP isD rd (digP isD rd s w).2.2.1.tail (digP isD rd s w).2.2.2).2.1, (digP isD rd (digP isD rd s w).2.2.1.tail (digP isD rd s w).2.2.2).2.2.1, (digP isD rd (digP isD rd s w).2.2.1.tail (digP isD rd s w).2.2.2).2.2.2))
  else (mk neg (digP isD rd s w).1 [1], (digP isD rd s w).2.1, (digP isD rd s w).2.2.1, (digP isD rd s w).2.2.2)
/-- a sign, if there is one: is it -, is there one, what is left -/
def sgnP (s : List UInt8) : Bool × Bool × List UInt8 := match s with
  | [] => (false, false, [])
  | c :: r => if c = 43 ∨ c = 45 then (c == 45, true, r) else (false, false, c :: r)
/-- is an i all that is left? -/
def unitB (s : List UInt8) : Bool := decide (s = [105]) || decide (s = [73])
/-- the program's number: the two parts, is it one, the worst error -/
def numP (s : List UInt8) (w : Int) : Rw × Rw × Bool × Int :=
  if (sgnP s).2.1 = true ∧ unitB (sgnP s).2.2 = true then (zz, mk (sgnP s).1 [1] [1], true, w)
  else match fracP isD rd mk (sgnP s).1 (sgnP s).2.2 w with
    | (re, ok, s2, w2) => if ok = false ∨ s2 = [] then (re, zz, ok, w2)
      else if (sgnP s).2.1 = true ∧ unitB s2 = true then (zz, re, true, w2)
      else if (sgnP s2).2.1 = false then (zz, zz, false, w2)
      else if unitB (sgnP s2).2.2 = true then (re, mk (sgnP s2).1 [1] [1], true, w2)
      else match fracP isD rd mk (sgnP s2).1 (sgnP s2).2.2 w2 with
        | (im, ok3, s4, w4) => (re, im, ok3 && unitB s4, w4)
/-- the reference's piece: what is left, what it is, its error -/
def pieceR (s : List UInt8) (neg : Bool) : Option (List UInt8 × Rw × Int) :=
  if s.takeWhile isD = [] then none
  else if (s.dropWhile isD).head? = some 47 then
    (if (s.dropWhile isD).tail.takeWhile isD = [] then none
    else if (rd (s.takeWhile isD)).2 ≠ 0 ∨ (rd ((s.dropWhile isD).tail.takeWhile isD)).2 ≠ 0 then some ((s.dropWhile isD).tail.dropWhile isD, zz, 4)
    else if (rd ((s.dropWhile isD).tail.takeWhile isD)).1 = [] then some ((s.dropWhile isD).tail.dropWhile isD, zz, 3)
    else some ((s.dropWhile isD).tail.dropWhile isD, mk neg (rd (s.takeWhile isD)).1 (rd ((s.dropWhile isD).tail.takeWhile isD)).1, 0))
  else some (s.dropWhile isD, mk neg (rd (s.takeWhile isD)).1 [1], (rd (s.takeWhile isD)).2)
def worseE (e f : Int) : Int := if e = 4 ∨ f = 4 then 4 else if e ≠ 0 then e else f
/-- the reference's number -/
def bodyR (s : List UInt8) : Option (Rw × Rw × Int) :=
  if (sgnP s).2.1 = true ∧ unitB (sgnP s).2.2 = true then some (zz, mk (sgnP s).1 [1] [1], 0)
  else match pieceR isD rd mk zz (sgnP s).2.2 (sgnP s).1 with
    | none => none
    | some (s2, re, e) => if s2 = [] then some (re, zz, e)
      else if (sgnP s).2.1 = true ∧ unitB s2 = true then some (zz, re, e)
      else if (sgnP s2).2.1 = false then none
      else if unitB (sgnP s2).2.2 = true then some (re, mk (sgnP s2).1 [1] [1], e)
      else match pieceR isD rd mk zz (sgnP s2).2.2 (sgnP s2).1 with
        | none => none
        | some (s4, im, f) => if unitB s4 = true then some (re, im, worseE e f) else none
/-- an error on top of another -/
def overE (w e : Int) : Int := if e = 4 then 4 else if e = 3 then (if w = 0 then 3 else w) else w
variable {isD rd mk zz}
theorem frac_piece (hrd : ∀ ds : List UInt8, ds ≠ [] → ds.all isD = true → (rd ds).2 = 0 ∨ (rd ds).2 = 4) (neg : Bool) (s : List UInt8) (w : Int) :
    (pieceR isD rd mk zz s neg = none → (fracP isD rd mk neg s w).2.1 = false) ∧
    (∀ r q e, pieceR isD rd mk zz s neg = some (r, q, e) → ∃ q', fracP isD rd mk neg s w = (q', true, r, overE w e) ∧ (e = 0 → q' = q) ∧ (e = 0 ∨ e = 3 ∨ e = 4)) := by
  unfold pieceR fracP
  by_cases h1 : s.takeWhile isD = []
  · have hd : digP isD rd s w = ([], false, s, w) := by unfold digP; rw [if_pos h1]
    rw [if_pos h1, hd]
    simp
  · have hd : digP isD rd s w = ((rd (s.takeWhile isD)).1, true, s.dropWhile isD, if (rd (s.takeWhile isD)).2 ≠ 0 then 4 else w) := by unfold digP; rw [if_neg h1]
    rw [if_neg h1, hd]
    have e1 := hrd _ h1 List.all_takeWhile
    generalize s.takeWhile isD = a at *
    generalize s.dropWhile isD = b at *
    rcases hav : rd a with ⟨av, ae⟩
    rw [hav] at e1
    dsimp only at e1 ⊢
    by_cases h2 : b.head? = some 47
    · rw [if_pos h2, if_pos (show true = true ∧ b.head? = some 47 from ⟨rfl, h2⟩)]
      by_cases h3 : b.tail.takeWhile isD = []
      · have hd2 : ∀ w, digP isD rd b.tail w = ([], false, b.tail, w) := fun w => by unfold digP; rw [if_pos h3]
        rw [if_pos h3]
        simp only [hd2]
        simp
      · have hd2 : ∀ w, digP isD rd b.tail w = ((rd (b.tail.takeWhile isD)).1, true, b.tail.dropWhile isD, if (rd (b.tail.takeWhile isD)).2 ≠ 0 then 4 else w) := fun w => by unfold digP; rw [if_neg h3]
        rw [if_neg h3]
        simp only [hd2]
        have e2 := hrd _ h3 List.all_takeWhile
        generalize b.tail.takeWhile isD = c at *
        generalize b.tail.dropWhile isD = d at *
        rcases hcv : rd c with ⟨cv, ce⟩
        rw [hcv] at e2
        dsimp only at e2 ⊢
        clear hd hd2
        unfold overE
        rcases e1 with rfl | rfl
        · rcases e2 with rfl | rfl
          · by_cases h4 : cv = []
            · subst h4
              by_cases hw : w = 0
              · subst hw; simp
              · simp [hw]
            · simp [h4]
          · by_cases h4 : cv = []
            · simp [h4]
            · simp [h4]
        · rcases e2 with rfl | rfl
          · by_cases h4 : cv = []
            · simp [h4]
            · simp [h4]
          · by_cases h4 : cv = []
            · simp [h4]
            · simp [h4]
    · rw [if_neg h2, if_neg (fun h => h2 h.2)]
      unfold overE
      rcases e1 with rfl | rfl
      · simp
      · simp
theorem over_worse {e f : Int} (he : e = 0 ∨ e = 3 ∨ e = 4) (hf : f = 0 ∨ f = 3 ∨ f = 4) : overE (overE 0 e) f = worseE e f := by
  unfold overE worseE
  rcases he with rfl | rfl | rfl <;> rcases hf with rfl | rfl | rfl <;> rfl
/-- the program's number is the reference's -/
theorem num_body (hrd : ∀ ds : List UInt8, ds ≠ [] → ds.all isD = true → (rd ds).2 = 0 ∨ (rd ds).2 = 4) (s : List UInt8) :
    (bodyR isD rd mk zz s = none → (numP isD rd mk zz s 0).2.2.1 = false) ∧
    (∀ re im e, bodyR isD rd mk zz s = some (re, im, e) → ∃ re' im', numP isD rd mk zz s 0 = (re', im', true, e) ∧ (e = 0 → re' = re ∧ im' = im)) := by
  unfold bodyR numP
  by_cases h1 : (sgnP s).2.1 = true ∧ unitB (sgnP s).2.2 = true
  · rw [if_pos h1, if_pos h1]
    simp
  rw [if_neg h1, if_neg h1]
  have k1 := frac_piece (mk := mk) (zz := zz) (isD := isD) hrd (sgnP s).1 (sgnP s).2.2 0
  cases hp : pieceR isD rd mk zz (sgnP s).2.2 (sgnP s).1 with
  | none =>
    have k2 := k1.1 hp
    rcases hf : fracP isD rd mk (sgnP s).1 (sgnP s).2.2 0 with ⟨re, ok, s2, w2⟩
    rw [hf] at k2
    dsimp only at k2 ⊢
    subst k2
    simp
  | some t =>
    obtain ⟨s2, re, e⟩ := t
    obtain ⟨q, hf, hq, he⟩ := k1.2 _ _ _ hp
    rw [hf]
    dsimp only
    have h00 : overE 0 e = e := by unfold overE; rcases he with rfl | rfl | rfl <;> rfl
    by_cases h2 : s2 = []
    · rw [if_pos h2, if_pos (.inr h2), h00]
      simp only [reduceCtorEq, false_imp_iff, Option.some.injEq, Prod.mk.injEq, true_and]
      rintro re1 im1 e1 ⟨rfl, rfl, rfl⟩
      exact ⟨q, zz, ⟨rfl, rfl, rfl⟩, fun h => ⟨hq h, rfl⟩⟩
    rw [if_neg h2, if_neg (show ¬ (true = false ∨ s2 = []) by simp [h2])]
    by_cases h3 : (sgnP s).2.1 = true ∧ unitB s2 = true
    · rw [if_pos h3, if_pos h3, h00]
      simp only [reduceCtorEq, false_imp_iff, Option.some.injEq, Prod.mk.injEq, true_and]
      rintro re1 im1 e1 ⟨rfl, rfl, rfl⟩
      exact ⟨zz, q, ⟨rfl, rfl, rfl⟩, fun h => ⟨rfl, hq h⟩⟩
    rw [if_neg h3, if_neg h3]
    by_cases h4 : (sgnP s2).2.1 = false
    · rw [if_pos h4, if_pos h4]
      simp
    rw [if_neg h4, if_neg h4]
    by_cases h5 : unitB (sgnP s2).2.2 = true
    · rw [if_pos h5, if_pos h5, h00]
      simp only [reduceCtorEq, false_imp_iff, Option.some.injEq, Prod.mk.injEq, true_and]
      rintro re1 im1 e1 ⟨rfl, rfl, rfl⟩
      exact ⟨q, _, ⟨rfl, rfl, rfl⟩, fun h => ⟨hq h, rfl⟩⟩
    rw [if_neg h5, if_neg h5]
    have k3 := frac_piece (mk := mk) (zz := zz) (isD := isD) hrd (sgnP s2).1 (sgnP s2).2.2 (overE 0 e)
    cases hp2 : pieceR isD rd mk zz (sgnP s2).2.2 (sgnP s2).1 with
    | none =>
      have k4 := k3.1 hp2
      rcases hf2 : fracP isD rd mk (sgnP s2).1 (sgnP s2).2.2 (overE 0 e) with ⟨im, ok3, s4, w4⟩
      rw [hf2] at k4
      dsimp only at k4 ⊢
      subst k4
      simp
    | some t =>
      obtain ⟨s4, im, f⟩ := t
      obtain ⟨q2, hf2, hq2, hfe⟩ := k3.2 _ _ _ hp2
      rw [hf2]
      dsimp only
      by_cases h6 : unitB s4 = true
      · rw [if_pos h6, h6, over_worse he hfe]
        simp only [reduceCtorEq, false_imp_iff, Option.some.injEq, Prod.mk.injEq, true_and, Bool.and_self]
        rintro re1 im1 e1 ⟨rfl, rfl, rfl⟩
        refine ⟨q, q2, ⟨rfl, rfl, rfl⟩, fun h => ?_⟩
        have : e = 0 ∧ f = 0 := by
          unfold worseE at h
          rcases he with rfl | rfl | rfl <;> rcases hfe with rfl | rfl | rfl <;> simp_all
        exact ⟨hq this.1, hq2 this.2⟩
      · have h6' : unitB s4 = false := by simpa using h6
        rw [if_neg h6, h6']
        simp
end
end Go.Proofs.Ytkjfpaommbjgbaa
