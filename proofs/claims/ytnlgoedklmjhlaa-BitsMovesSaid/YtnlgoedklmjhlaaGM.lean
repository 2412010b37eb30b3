/- Merged texts: PlainY, PlainW, EzX, BiP, BiQ, BiR, BiS. -/
import Derived.Test.YtnlgoedklmjhlaaGA
import Derived.Test.YtnlgoedklmjhlaaGH
import Derived.StillTail
import Derived.Test.YtnlgoedklmjhlaaGK
import Derived.StillTailTactics
import Derived.IntWalk
namespace Go.Proofs.Ytnlgoedklmjhlaa

theorem floor_neg (m : Nat) (d : Nat) (hd : 0 < d) : (-(m : Int) - 1) / (d : Int) = -((m / d : Nat) : Int) - 1 := by
  have h1 := Nat.div_add_mod m d
  have h2 := Nat.mod_lt m hd
  generalize m / d = q at *
  generalize m % d = r at *
  have h3 : (m : Int) = (d : Int) * q + r := by exact_mod_cast h1.symm
  have h4 : (-(m : Int) - 1) = (d : Int) * (-(q : Int) - 1) + ((d : Int) - 1 - r) := by rw [h3, Int.mul_sub, Int.mul_neg]; omega
  rw [h4, Int.mul_add_ediv_left _ _ (by omega), Int.ediv_eq_zero_of_lt (by omega) (by omega)]
  omega
/-- shifting down leaves the bits in their order -/
theorem ib_neg (m k : Nat) : ib (-(m : Int) - 1) k = !m.testBit k := by
  unfold ib
  rw [if_pos (by omega), show (-(-(m : Int) - 1) - 1).toNat = m by omega]
theorem ib_nat (m k : Nat) : ib (m : Int) k = m.testBit k := by
  unfold ib
  rw [if_neg (by omega), Int.toNat_natCast]
theorem ib_down (X : Int) (n k : Nat) : ib (X / ((2 ^ n : Nat) : Int)) k = ib X (n + k) := by
  have hp : 0 < 2 ^ n := Nat.pow_pos (by omega)
  by_cases h : X < 0
  · obtain ⟨m, rfl⟩ : ∃ m : Nat, X = -(m : Int) - 1 := ⟨(-X - 1).toNat, by omega⟩
    rw [floor_neg m _ hp, ib_neg, ib_neg, Nat.testBit_div_two_pow, Nat.add_comm]
  · obtain ⟨m, rfl⟩ : ∃ m : Nat, X = (m : Int) := ⟨X.toNat, by omega⟩
    rw [← Int.natCast_ediv, ib_nat, ib_nat, Nat.testBit_div_two_pow, Nat.add_comm]
/-- the bits of a number's lowest bits -/
theorem lowN_bit (N : Nat) (X : Int) (k : Nat) : (lowN N X).testBit k = (decide (k < N) && ib X k) := by
  have hp : 0 < 2 ^ N := Nat.pow_pos (by omega)
  by_cases h : X < 0
  · obtain ⟨m, rfl⟩ : ∃ m : Nat, X = -(m : Int) - 1 := ⟨(-X - 1).toNat, by omega⟩
    rw [low_not]
    have e : lowN N (m : Int) = m % 2 ^ N := by
      unfold lowN
      rw [← Int.natCast_emod, Int.toNat_natCast]
    rw [e, show 2 ^ N - 1 - m % 2 ^ N = 2 ^ N - (m % 2 ^ N + 1) by omega, Nat.testBit_two_pow_sub_succ (Nat.mod_lt _ hp), Nat.testBit_mod_two_pow]
    rw [ib_neg]
    by_cases hk : k < N
    · simp [hk]
    · simp [hk]
  · obtain ⟨m, rfl⟩ : ∃ m : Nat, X = (m : Int) := ⟨X.toNat, by omega⟩
    have e : lowN N (m : Int) = m % 2 ^ N := by
      unfold lowN
      rw [← Int.natCast_emod, Int.toNat_natCast]
    rw [e, Nat.testBit_mod_two_pow]
    rw [ib_nat]
/-- the n bits of a number from s on -/
def fieldN (X : Int) (s n : Nat) : Nat := lowN n (X / ((2 ^ s : Nat) : Int))
theorem fieldN_lt (X : Int) (s n : Nat) : fieldN X s n < 2 ^ n := lowN_lt _ _
theorem fieldN_bit (X : Int) (s n k : Nat) : (fieldN X s n).testBit k = (decide (k < n) && ib X (s + k)) := by
  unfold fieldN
  rw [lowN_bit, ib_down]
theorem fieldN_zero (X : Int) (n : Nat) : (fieldN X 0 n : Int) = X % ((2 ^ n : Nat) : Int) := by
  unfold fieldN lowN
  have hp : 0 < 2 ^ n := Nat.pow_pos (by omega)
  rw [Nat.pow_zero, show ((1 : Nat) : Int) = 1 from rfl, Int.ediv_one]
  have h := Int.emod_nonneg X (b := ((2 ^ n : Nat) : Int)) (by omega)
  omega
/-- a row's bits -/
theorem rowI_bit (n : Nat) (X : Int) (k : Nat) : (wd (rowI n X) (k / 32)).testBit (k % 32) = (decide (k < 32 * n) && ib X k) := by
  rw [← val_testBit (rowI_b32 n X), rowI_val, lowN_bit]
theorem bit_one (x k : Nat) : x >>> k &&& 1 = if x.testBit k then 1 else 0 := by
  rw [Nat.and_one_is_mod, Nat.shiftRight_eq_div_pow, Nat.testBit_eq_decide_div_mod_eq]
  by_cases h : x / 2 ^ k % 2 = 1
  · simp [h]
  · have : x / 2 ^ k % 2 = 0 := by omega
    simp [this]
/-- a word's bit set (or not) -/
theorem or_bitk (x : Nat) (b : Bool) (s j : Nat) : (x ||| ((if b then 1 else 0) * 2 ^ s)).testBit j = (x.testBit j || (b && decide (j = s))) := by
  rw [Nat.testBit_or]
  cases b with
  | false => simp
  | true =>
    simp only [if_true, Nat.one_mul, Bool.true_and]
    rw [Nat.testBit_two_pow]
    simp [eq_comm]
theorem or_bitk_lt {x : Nat} (hx : x < 4294967296) (b : Bool) {s : Nat} (hs : s < 32) : (x ||| ((if b then 1 else 0) * 2 ^ s)) < 4294967296 := by
  have h2 : ((if b then 1 else 0) * 2 ^ s) < 2 ^ 32 := by
    have h3 : 2 ^ s < 2 ^ 32 := Nat.pow_lt_pow_right (by omega) hs
    cases b <;> simp <;> omega
  exact Nat.or_lt_two_pow (n := 32) (by simpa using hx) h2
/-- a row's bit k is set: its number's bits -/
theorem set_bit {o : List Nat} (hb : B32 o) {k : Nat} (hk : k / 32 < o.length) (b : Bool) (j : Nat) :
    (val (o.set (k / 32) (wd o (k / 32) ||| ((if b then 1 else 0) * 2 ^ (k % 32))))).testBit j = ((val o).testBit j || (b && decide (j = k))) := by
  have hb2 : B32 (o.set (k / 32) (wd o (k / 32) ||| ((if b then 1 else 0) * 2 ^ (k % 32)))) := by
    intro x hx
    rcases List.mem_or_eq_of_mem_set hx with h | h
    · exact hb x h
    · rw [h]; exact or_bitk_lt (wd_lt hb _) b (Nat.mod_lt _ (by omega))
  rw [val_testBit hb2, val_testBit hb]
  by_cases e : j / 32 = k / 32
  · rw [e, wd_set_eq hk, or_bitk]
    have : (j % 32 = k % 32) ↔ (j = k) := by omega
    simp [this]
  · rw [wd_set_ne (Ne.symm e)]
    have : ¬ j = k := fun h => e (by rw [h])
    simp [this]
/-- bits set one after the other -/
theorem bits_step {o : List Nat} (hb : B32 o) {k : Nat} (hk : k / 32 < o.length) {f : Nat → Bool} (h : ∀ j, (val o).testBit j = (decide (j < k) && f j)) :
    ∀ j, (val (o.set (k / 32) (wd o (k / 32) ||| ((if f k then 1 else 0) * 2 ^ (k % 32))))).testBit j = (decide (j < k + 1) && f j) := by
  intro j
  rw [set_bit hb hk, h]
  by_cases e : j = k
  · subst e
    simp
  · by_cases hl : j < k
    · simp [e, hl, Nat.lt_succ_of_lt hl]
    · have : ¬ j < k + 1 := by omega
      simp [e, hl, this]
theorem bits_start (n j : Nat) (f : Nat → Bool) : (val (List.replicate n 0)).testBit j = (decide (j < 0) && f j) := by
  rw [val_replicate]; simp
theorem bits_end {v : Nat} {n : Nat} {X : Int} {s : Nat} (h : ∀ j, v.testBit j = (decide (j < n) && ib X (s + j))) : v = fieldN X s n :=
  Nat.eq_of_testBit_eq fun j => by rw [h, fieldN_bit]
/-- how many of a number's n lowest bits are 1 -/
def pcount (v : Nat) : Nat → Nat
  | 0 => 0
  | n + 1 => pcount v n + if v.testBit n then 1 else 0
theorem pcount_le (v n : Nat) : pcount v n ≤ n := by
  induction n with
  | zero => exact Nat.le_refl _
  | succ n ih => unfold pcount; split <;> omega
theorem pcount_split (v n m : Nat) : pcount v (n + m) = pcount v n + pcount (v / 2 ^ n) m := by
  induction m with
  | zero => simp [pcount]
  | succ m ih =>
    rw [← Nat.add_assoc]
    show pcount v (n + m) + _ = _
    rw [ih]
    show _ = pcount v n + (pcount (v / 2 ^ n) m + _)
    rw [Nat.testBit_div_two_pow, Nat.add_comm m n]
    omega
theorem pcount_mod (v m : Nat) : ∀ n, n ≤ m → pcount (v % 2 ^ m) n = pcount v n := by
  intro n
  induction n with
  | zero => intro _; rfl
  | succ n ih =>
    intro h
    unfold pcount
    rw [ih (by omega), Nat.testBit_mod_two_pow]
    have : n < m := by omega
    simp [this]
theorem pcount_word {l : List Nat} (h : B32 l) {k : Nat} : pcount (val l) (32 * (k + 1)) = pcount (val l) (32 * k) + pcount (wd l k) 32 := by
  have key : ∀ j, j ≤ 32 → pcount (val l) (32 * k + j) = pcount (val l) (32 * k) + pcount (wd l k) j := by
    intro j
    induction j with
    | zero => intro _; simp [pcount]
    | succ j ih =>
      intro hj
      rw [← Nat.add_assoc]
      have e : (val l).testBit (32 * k + j) = (wd l k).testBit j := by
        rw [val_testBit h, show (32 * k + j) / 32 = k by omega, show (32 * k + j) % 32 = j by omega]
      show pcount (val l) (32 * k + j) + (if (val l).testBit (32 * k + j) = true then 1 else 0) = pcount (val l) (32 * k) + (pcount (wd l k) j + _)
      rw [ih (by omega), e]
      omega
  exact key 32 (Nat.le_refl _)
theorem pcount_bytes (x : Nat) : pcount x 32 = pcount (x / 16777216) 8 + pcount (x / 65536 % 256) 8 + pcount (x / 256 % 256) 8 + pcount (x % 256) 8 := by
  have h1 := pcount_split x 8 24
  rw [show 8 + 24 = 32 from rfl] at h1
  have h2 := pcount_split (x / 2 ^ 8) 8 16
  rw [show 8 + 16 = 24 from rfl] at h2
  have h3 := pcount_split (x / 2 ^ 8 / 2 ^ 8) 8 8
  rw [show 8 + 8 = 16 from rfl] at h3
  rw [Nat.div_div_eq_div_mul x, Nat.div_div_eq_div_mul x] at h3
  have m0 := pcount_mod x 8 8 (Nat.le_refl _)
  have m1 := pcount_mod (x / 2 ^ 8) 8 8 (Nat.le_refl _)
  have m2 := pcount_mod (x / (2 ^ 8 * 2 ^ 8)) 8 8 (Nat.le_refl _)
  rw [Nat.div_div_eq_div_mul] at h2
  simp only [show (2 ^ 8 : Nat) = 256 from rfl, show (256 * 256 : Nat) = 65536 from rfl, show (65536 * 256 : Nat) = 16777216 from rfl] at *
  omega
end Go.Proofs.Ytnlgoedklmjhlaa
namespace Go.Proofs.Ytnlgoedklmjhlaa

/-- a number's lowest bit -/
def b0 (X : Int) : Int := if ib X 0 then 1 else 0
theorem half (X : Int) : X = 2 * (X / 2) + b0 X := by
  unfold b0 ib
  by_cases h : X < 0
  · obtain ⟨m, rfl⟩ : ∃ m : Nat, X = -(m : Int) - 1 := ⟨(-X - 1).toNat, by omega⟩
    rw [if_pos h, show (-(-(m : Int) - 1) - 1).toNat = m by omega, Nat.testBit_zero]
    by_cases hm : m % 2 = 1
    · simp [hm]; omega
    · simp [hm]; omega
  · obtain ⟨m, rfl⟩ : ∃ m : Nat, X = (m : Int) := ⟨X.toNat, by omega⟩
    rw [if_neg h, Int.toNat_natCast, Nat.testBit_zero]
    by_cases hm : m % 2 = 1
    · simp [hm]; omega
    · simp [hm]; omega
theorem ib_half (X : Int) (k : Nat) : ib (X / 2) k = ib X (k + 1) := by
  have h := ib_down X 1 k
  rw [show ((2 ^ 1 : Nat) : Int) = 2 from rfl, Nat.add_comm] at h
  exact h
theorem isOp_half {f : Bool → Bool → Bool} {Z X Y : Int} (h : isOp f Z X Y) : isOp f (Z / 2) (X / 2) (Y / 2) := fun k => by
  rw [ib_half, ib_half, ib_half]; exact h (k + 1)
theorem ib_zero (k : Nat) : ib 0 k = false := by unfold ib; simp
theorem ib_minus (k : Nat) : ib (-1) k = true := by unfold ib; simp
/-- a number between -2^0 and 2^0 is 0 or -1 -/
theorem small_two {X : Int} (h1 : -((2 ^ 0 : Nat) : Int) ≤ X) (h2 : X < ((2 ^ 0 : Nat) : Int)) : X = 0 ∨ X = -1 := by
  rw [Nat.pow_zero] at h1 h2; omega
theorem half_range {X : Int} {N : Nat} (h1 : -((2 ^ (N + 1) : Nat) : Int) ≤ X) (h2 : X < ((2 ^ (N + 1) : Nat) : Int)) : -((2 ^ N : Nat) : Int) ≤ X / 2 ∧ X / 2 < ((2 ^ N : Nat) : Int) := by
  rw [Nat.pow_succ] at h1 h2; omega
/-- bit by bit operations keep the range, and a linear law of the bits is one of the numbers -/
theorem isOp_lin {f g : Bool → Bool → Bool} {a b c d : Int} (hl : ∀ p q : Bool, a * (if f p q then 1 else 0) + b * (if g p q then 1 else 0) = c * (if p then 1 else 0) + d * (if q then 1 else 0)) (N : Nat) :
    ∀ {U V X Y : Int}, isOp f U X Y → isOp g V X Y → -((2 ^ N : Nat) : Int) ≤ X → X < ((2 ^ N : Nat) : Int) → -((2 ^ N : Nat) : Int) ≤ Y → Y < ((2 ^ N : Nat) : Int) → a * U + b * V = c * X + d * Y := by
  induction N with
  | zero =>
    intro U V X Y hu hv x1 x2 y1 y2
    have key : ∀ p q : Bool, X = (if p then -1 else 0) → Y = (if q then -1 else 0) → a * U + b * V = c * X + d * Y := by
      intro p q ep eq
      have bx : ∀ k, ib X k = p := fun k => by rw [ep]; cases p <;> simp [ib_zero, ib_minus]
      have by_ : ∀ k, ib Y k = q := fun k => by rw [eq]; cases q <;> simp [ib_zero, ib_minus]
      have eu : U = if f p q then -1 else 0 := ib_ext fun k => by
        rw [hu k, bx, by_]
        cases f p q <;> simp [ib_zero, ib_minus]
      have ev : V = if g p q then -1 else 0 := ib_ext fun k => by
        rw [hv k, bx, by_]
        cases g p q <;> simp [ib_zero, ib_minus]
      have h := hl p q
      rw [eu, ev, ep, eq]
      have neg : ∀ (t : Bool), (if t = true then (-1 : Int) else 0) = -(if t = true then (1 : Int) else 0) := fun t => by cases t <;> rfl
      rw [neg, neg, neg, neg, Int.mul_neg, Int.mul_neg, Int.mul_neg, Int.mul_neg]
      omega
    rcases small_two x1 x2 with hx | hx <;> rcases small_two y1 y2 with hy | hy
    · exact key false false (by simp [hx]) (by simp [hy])
    · exact key false true (by simp [hx]) (by simp [hy])
    · exact key true false (by simp [hx]) (by simp [hy])
    · exact key true true (by simp [hx]) (by simp [hy])
  | succ N ih =>
    intro U V X Y hu hv x1 x2 y1 y2
    obtain ⟨x3, x4⟩ := half_range x1 x2
    obtain ⟨y3, y4⟩ := half_range y1 y2
    have h := ih (isOp_half hu) (isOp_half hv) x3 x4 y3 y4
    have l := hl (ib X 0) (ib Y 0)
    have bu : b0 U = if f (ib X 0) (ib Y 0) then 1 else 0 := by unfold b0; rw [hu 0]
    have bv : b0 V = if g (ib X 0) (ib Y 0) then 1 else 0 := by unfold b0; rw [hv 0]
    rw [← bu, ← bv] at l
    have eX := half X
    have eY := half Y
    have eU := half U
    have eV := half V
    unfold b0 at eX eY
    generalize (if ib X 0 = true then (1 : Int) else 0) = p at *
    generalize (if ib Y 0 = true then (1 : Int) else 0) = q at *
    generalize b0 U = r at *
    generalize b0 V = s at *
    generalize U / 2 = u at *
    generalize V / 2 = v at *
    generalize X / 2 = x at *
    generalize Y / 2 = y at *
    rw [eU, eV, eX, eY]
    grind
/-- any two numbers lie in a common range -/
theorem range_of (X Y : Int) : ∃ N : Nat, -((2 ^ N : Nat) : Int) ≤ X ∧ X < ((2 ^ N : Nat) : Int) ∧ -((2 ^ N : Nat) : Int) ≤ Y ∧ Y < ((2 ^ N : Nat) : Int) := by
  refine ⟨X.natAbs + Y.natAbs, ?_⟩
  have h := Nat.lt_two_pow_self (n := X.natAbs + Y.natAbs)
  omega
theorem and_or_sum {A O X Y : Int} (ha : isOp (fun p q => p && q) A X Y) (ho : isOp (fun p q => p || q) O X Y) : A + O = X + Y := by
  obtain ⟨N, h1, h2, h3, h4⟩ := range_of X Y
  have h := isOp_lin (f := fun p q => p && q) (g := fun p q => p || q) (a := 1) (b := 1) (c := 1) (d := 1) (by intro p q; cases p <;> cases q <;> rfl) N ha ho h1 h2 h3 h4
  omega
theorem or_and_diff {A O E X Y : Int} (ha : isOp (fun p q => p && q) A X Y) (ho : isOp (fun p q => p || q) O X Y) (hx : isOp (fun p q => p != q) E X Y) : O - A = E := by
  obtain ⟨N, h1, h2, h3, h4⟩ := range_of X Y
  have e1 := and_or_sum ha ho
  have h := isOp_lin (f := fun p q => p && q) (g := fun p q => p != q) (a := 2) (b := 1) (c := 1) (d := 1) (by intro p q; cases p <;> cases q <;> rfl) N ha hx h1 h2 h3 h4
  omega
theorem not_exchanges {A O X Y : Int} (ha : isOp (fun p q => p && q) A X Y) (ho : isOp (fun p q => p || q) O (-X - 1) (-Y - 1)) : O = -A - 1 :=
  ib_ext fun k => by rw [ho k, ib_not, ib_not, ib_not, ha k]; simp
/-- an operation's number is in the numbers' range -/
theorem isOp_range {f : Bool → Bool → Bool} (N : Nat) : ∀ {Z X Y : Int}, isOp f Z X Y → -((2 ^ N : Nat) : Int) ≤ X → X < ((2 ^ N : Nat) : Int) → -((2 ^ N : Nat) : Int) ≤ Y → Y < ((2 ^ N : Nat) : Int) → -((2 ^ N : Nat) : Int) ≤ Z ∧ Z < ((2 ^ N : Nat) : Int) := by
  induction N with
  | zero =>
    intro Z X Y h x1 x2 y1 y2
    have key : ∀ p q : Bool, X = (if p then -1 else 0) → Y = (if q then -1 else 0) → Z = 0 ∨ Z = -1 := by
      intro p q ep eq
      have bx : ∀ k, ib X k = p := fun k => by rw [ep]; cases p <;> simp [ib_zero, ib_minus]
      have by_ : ∀ k, ib Y k = q := fun k => by rw [eq]; cases q <;> simp [ib_zero, ib_minus]
      cases hf : f p q with
      | false => left; exact ib_ext fun k => by rw [h k, bx, by_, hf, ib_zero]
      | true => right; exact ib_ext fun k => by rw [h k, bx, by_, hf, ib_minus]
    have hz : Z = 0 ∨ Z = -1 := by
      rcases small_two x1 x2 with hx | hx <;> rcases small_two y1 y2 with hy | hy
      · exact key false false (by simp [hx]) (by simp [hy])
      · exact key false true (by simp [hx]) (by simp [hy])
      · exact key true false (by simp [hx]) (by simp [hy])
      · exact key true true (by simp [hx]) (by simp [hy])
    rw [Nat.pow_zero]; omega
  | succ N ih =>
    intro Z X Y h x1 x2 y1 y2
    obtain ⟨x3, x4⟩ := half_range x1 x2
    obtain ⟨y3, y4⟩ := half_range y1 y2
    obtain ⟨z1, z2⟩ := ih (isOp_half h) x3 x4 y3 y4
    have e := half Z
    have hb : b0 Z = 0 ∨ b0 Z = 1 := by unfold b0; split <;> simp
    rw [Nat.pow_succ]
    omega
end Go.Proofs.Ytnlgoedklmjhlaa
namespace Go.Proofs.Ytnlgoedklmjhlaa
open Go.RowKit

section
variable {P : Program} {ops : Array Oper} {Q : Exit → Act → World → Prop} {md : Region.Mode} {S : World → Prop} {n : Nat}
/-- in whatever order; S holds behind every operation but number n -/
def AnyU (P : Program) (md : Region.Mode) (ops : Array Oper) (Q : Exit → Act → World → Prop) (S : World → Prop) (n : Nat) : Nat → Array Bool → Act → World → Prop
  | 0 => fun l a w => Region.ready md ops l = [] ∧ Q .normal a w
  | f + 1 => fun l a w => (Region.ready md ops l = [] → Q .normal a w) ∧
      ∀ i ∈ Region.ready md ops l, wpOp P ops Q i (fun a' w' => (i = n ∨ S w') ∧ AnyU P md ops Q S n f (l.setIfInBounds i true) a' w') a w
theorem AnyU.any (f : Nat) : ∀ (l : Array Bool) (a : Act) (w : World), AnyU P md ops Q S n f l a w → wpAny P md ops Q f l a w := by
  induction f with
  | zero => exact fun l a w h => h
  | succ f ih => exact fun l a w h => ⟨h.1, fun i hi => wpOp_mono (fun a' w' g => ih _ a' w' g.2) (h.2 i hi)⟩
/-- who comes up ahead of i leaves i alone -/
def Alone (md : Region.Mode) (ops : Array Oper) (l : Array Bool) (i : Nat) (oi : Oper) : Prop :=
  ∀ j oj, ops[j]? = some oj → j ≠ i → l.getD j true = false → (∀ e ∈ oj.after, Region.binds md e = true → e.on ≠ i) → oi.apart ops oj = true
theorem Alone.set {l : Array Bool} {i j : Nat} {oi : Oper} (h : Alone md ops l i oi) (hj : l.getD j true = false) : Alone md ops (l.setIfInBounds j true) i oi := by
  intro k ok hk hki hu hno
  refine h k ok hk hki ?_ hno
  by_cases e : j = k
  · rw [← e]; exact hj
  · rwa [getD_set_ne true e] at hu
theorem unlisted {l : Array Bool} {i : Nat} (h : l.getD i true = false) : l.getD i false = false := by
  cases hx : l[i]? with
  | none => simp [Array.getD_eq_getD_getElem?, hx]
  | some b => simp [Array.getD_eq_getD_getElem?, hx] at h ⊢; exact h
theorem AnyU.take_aux {i : Nat} {oi : Oper} {v : Value} (hi : ops[i]? = some oi) (hsel : ∀ (j : Nat) (o : Oper) cs b, ops[j]? = some o → o.op ≠ .select cs b)
    (hQ : ∀ c a w, Q (.panic c) (a.put oi.dst v) w → Q (.panic c) a w) (hn : Region.waitsFor md ops n i = true) (f : Nat) :
    ∀ (l : Array Bool) (a : Act) (w : World), Alone md ops l i oi → i ∈ Region.ready md ops l → YieldsIf P ops S oi v a → S w →
      AnyU P md ops Q S n f (l.setIfInBounds i true) (a.put oi.dst v) w → AnyU P md ops Q S n (f + 1) l a w := by
  have last : ∀ l : Array Bool, i ∈ Region.ready md ops l → n ∉ Region.ready md ops l := by
    intro l h1 h2
    obtain ⟨on, hon, e, he, hb, heq⟩ := Region.waitsFor_spec hn
    obtain ⟨_, o2, ho2, hall⟩ := mem_ready.1 h2
    obtain rfl : o2 = on := Option.some.inj (ho2.symm.trans hon)
    have h3 := hall e he hb
    rw [heq, unlisted (mem_ready.1 h1).1] at h3
    cases h3
  induction f with
  | zero =>
    intro l a w _ hr hy hS H
    refine ⟨fun h => (by rw [h] at hr; cases hr), fun j hj => ?_⟩
    by_cases e : j = i
    · subst e
      exact hy.wpOp hi hS ⟨.inr hS, H⟩
    · have hj2 := ready_mono hj e
      rw [H.1] at hj2
      cases hj2
  | succ f ih =>
    intro l a w hA hr hy hS H
    refine ⟨fun h => (by rw [h] at hr; cases hr), fun j hj => ?_⟩
    by_cases e : j = i
    · subst e
      exact hy.wpOp hi hS ⟨.inr hS, H⟩
    obtain ⟨hju, oj, hoj, hall⟩ := mem_ready.1 hj
    have hno : ∀ e ∈ oj.after, Region.binds md e = true → e.on ≠ i := by
      intro e he hb heq
      have h3 := hall e he hb
      rw [heq, unlisted (mem_ready.1 hr).1] at h3
      cases h3
    have hjn : j ≠ n := fun h => last l hr (h ▸ hj)
    have step := wpOp_putIf hoj (hA j oj hoj e hju hno) (fun cs b => hsel i oi cs b hi) (fun cs b => hsel j oj cs b hoj) hQ hy (H.2 j (ready_mono hj e))
    refine wpOp_mono (fun a' w' g => ?_) step
    have hS' : S w' := g.2.1.resolve_left hjn
    refine ⟨.inr hS', ih _ a' w' (hA.set hju) (ready_mono hr (Ne.symm e)) g.1 hS' ?_⟩
    rw [Array.setIfInBounds_comm _ _ e]
    exact g.2.2
theorem AnyU.take {i : Nat} {oi : Oper} {v : Value} {f : Nat} {l : Array Bool} {a : Act} {w : World} (hi : ops[i]? = some oi) (hs : Region.noSelect ops = true) (hf : Region.free md ops l i = true) (hr : (Region.ready md ops l).contains i = true)
    (hn : Region.waitsFor md ops n i = true) (hQ : ∀ c a w, Q (.panic c) (a.put oi.dst v) w → Q (.panic c) a w) (hy : YieldsIf P ops S oi v a) (hS : S w)
    (h : AnyU P md ops Q S n f (l.setIfInBounds i true) (a.put oi.dst v) w) : AnyU P md ops Q S n (f + 1) l a w :=
  AnyU.take_aux hi (Region.noSelect_spec hs) hQ hn f l a w (fun j oj h1 h2 h3 h4 => Region.free_spec hi hf j oj h1 h2 h3 h4) (by simpa using hr) hy hS h
/-- one operation alone may come up -/
theorem AnyU.one (i : Nat) {o : Oper} {f : Nat} {l : Array Bool} {a : Act} {w : World} (hr : Region.ready md ops l = [i]) (ho : ops[i]? = some o)
    (h : ∀ K : Act → World → Prop, Shut (∀ a w, (i = n ∨ S w) → ((i = n ∨ S w) → AnyU P md ops Q S n f (l.setIfInBounds i true) a w) → K a w) → if Region.wanted o (yielded ops a.tmps) = true then Oper.wp P o a w K Q else K (a.put o.dst undef) w) :
    AnyU P md ops Q S n (f + 1) l a w := by
  refine ⟨fun h0 => (by rw [h0] at hr; cases hr), fun j hj => ?_⟩
  rw [hr] at hj
  obtain rfl := List.mem_singleton.1 hj
  exact wpOp_step ho (fun K hK => h K (fun a w hS hW => hK a w ⟨hS, hW hS⟩))
theorem AnyU.region {id : Nat} {a : Act} {w : World} (n : Nat) (S : World → Prop) (hm : P.follows .mixedOrders = true) (hS : S w.drew) (h : S w.drew → AnyU P .any ops Q S n ops.size (Array.replicate ops.size false) a w.drew) : (Code.region id ops true).wp P Q a w :=
  wp_region_any hm (AnyU.any _ _ _ _ (h hS))
/-- what is said of a panic does not hang on the slots -/
def QuietP (Q : Exit → Act → World → Prop) : Prop := ∀ c a a' w, a'.defers = a.defers → Q (.panic c) a' w → Q (.panic c) a w
theorem quiet_then {K : Act → World → Prop} (h : QuietP Q) : QuietP (Exit.then K Q) := fun c a a' w e g => h c a a' w e g
theorem quiet_block {id : Nat} (h : QuietP Q) : QuietP (Exit.inBlock id Q) := fun c a a' w e g => h c a a' w e g
theorem quiet_body {fn : Func} {R : Ending → World → Prop} : QuietP (bodyPost P fn R) := fun _ _ _ _ e g => ⟨e ▸ g.1, g.2⟩
theorem put_defers (a : Act) (d : Option Tmp) (v : Value) : (a.put d v).defers = a.defers := by cases d <;> rfl
theorem AnyU.next {i : Nat} {oi : Oper} {d : Tmp} {v : Value} {f : Nat} {l : Array Bool} {ts : Array Value} {ds : List Deferred} {w : World} (hq : QuietP Q) (hs : Region.noSelect ops = true) (hS : S w) (hi : ops[i]? = some oi) (hd : oi.dst = some d)
    (hk : (Region.free md ops l i && ((Region.ready md ops l).contains i && Region.waitsFor md ops n i)) = true) (hy : YieldsIf P ops S oi v ⟨ts, ds⟩)
    (h : AnyU P md ops Q S n f (l.setIfInBounds i true) ⟨ts.setIfInBounds d v, ds⟩ w) : AnyU P md ops Q S n (f + 1) l ⟨ts, ds⟩ w := by
  simp only [Bool.and_eq_true] at hk
  refine AnyU.take hi hs hk.1 hk.2.1 hk.2.2 (fun c a w h => hq c a _ w (put_defers _ _ _) h) hy hS ?_
  rw [hd]
  exact h
theorem AnyU.regionQ {id : Nat} {a : Act} {w : World} (n N : Nat) (S : World → Prop) (hN : ops.size = N) (hm : P.follows .mixedOrders = true) (hs : Region.noSelect ops = true) (hq : QuietP Q) (hS : S w.drew)
    (h : ∀ Q' : Exit → Act → World → Prop, Shut (∀ a w, Q .normal a w → Q' .normal a w) → QuietP Q' → Region.noSelect ops = true → S w.drew → AnyU P .any ops Q' S n N (Array.replicate N false) a w.drew) : (Code.region id ops true).wp P Q a w :=
  have h0 : ∀ a w, Q .normal a w → Q .normal a w := fun _ _ h => h
  by subst hN; exact wp_region_any hm (AnyU.any _ _ _ _ (h Q h0 hq hs hS))
theorem AnyU.done {f : Nat} {l : Array Bool} {a : Act} {w : World} (hr : Region.ready md ops l = []) (h : Q .normal a w) : AnyU P md ops Q S n f l a w := by
  cases f with
  | zero => exact ⟨hr, h⟩
  | succ f => exact ⟨fun _ => h, fun i hi => by rw [hr] at hi; cases hi⟩
end
theorem S2.far3 {w w1 : World} {b g n : Nat} {l1 : List Value} (h : S2 w b l1 n w1) (hg : b + 1 < g) (x y z : Value) : S2 w b l1 n (wr3 w1 g x y z) :=
  ⟨h.1.wr3 (by omega) x y z, (h.2.1.sb.wr3 (by omega) x y z).rc (by simp), wr3_below h.2.2 (by omega) x y z⟩
theorem OW.far3 {w : World} {base g : Nat} {A : Option Addr} {c : Nat} {l : List Nat} (h : OW w base A c l) (hn : ∀ b, A = some ⟨b, 0, none⟩ → b ≠ g) (x y z : Value) : OW (wr3 w g x y z) base A c l :=
  ((h.far (p := ⟨g, 0, none⟩) hn x).far (p := ⟨g, 1, none⟩) hn y).far (p := ⟨g, 2, none⟩) hn z
theorem SB.put36 {w : World} {g : Nat} {a b c d e f : Value} (h : SB w g [a, b, c, d, e, f]) (x y z : Value) : SB (Go.Proofs.Ytnlgoedklmjhlaa.wr3 w g x y z) g [x, y, z, d, e, f] := ((h.set 0 x).set 1 y).set 2 z
end Go.Proofs.Ytnlgoedklmjhlaa
namespace Go.Proofs.Ytnlgoedklmjhlaa
open Go.RowKit

/-- the same, and how the world stands to a world of the walk -/
def S2B (w w0 : World) (b : Nat) (l1 : List Value) (n : Nat) (w' : World) : Prop := S2 w b l1 n w' ∧ Below w0.heap.size w0 w'
theorem S2B.nx {w w0 w1 w2 : World} {b n : Nat} {l1 : List Value} (h : S2B w w0 b l1 n w1) (hb : Below w1.heap.size w1 w2) : S2B w w0 b l1 n w2 := ⟨h.1.nx hb, bt h.2 hb⟩
theorem S2B.dr {w w0 w1 : World} {b n : Nat} {l1 : List Value} (h : S2B w w0 b l1 n w1) : S2B w w0 b l1 n w1.drew := ⟨h.1.dr, bdN h.2 1⟩
theorem S2.kb {w w1 w2 : World} {b B n : Nat} {l1 : List Value} (h : S2 w b l1 n w1) (hb : Below B w1 w2) (hB : b + 1 < B) : S2 w b l1 n w2 := ⟨h.1.below hb (by omega), (h.2.1.sb.below hb hB).rc (by simp), h.2.2.trans (hb.mono (by omega))⟩
theorem S2.farS {w w1 : World} {b g n : Nat} {l1 : List Value} (h : S2 w b l1 n w1) (hg : b + 1 < g) (k : Nat) (v : Value) : S2 w b l1 n (w1.setCell ⟨g, k, none⟩ v) :=
  ⟨h.1.far (p := ⟨g, k, none⟩) (by show b ≠ g; omega) v, (h.2.1.sb.far (p := ⟨g, k, none⟩) (by show b + 1 ≠ g; omega) v).rc (by simp), h.2.2.setCell (p := ⟨g, k, none⟩) (by show b ≤ g; omega) v⟩
theorem OW.kb' {w w' : World} {base B c : Nat} {A : Option Addr} {l : List Nat} (h : OW w base A c l) (hb : Below B w w') (hlt : ∀ g, A = some ⟨g, 0, none⟩ → g < B) : OW w' base A c l := h.kb hb hlt
/-- an answer: a whole number by its sign and its value -/
theorem fit_in {s : Bool} {v : Nat} (h0 : v = 0 → s = false) : (rwq ((sgn s v : Int) : Rat), rwq 0, (0 : Int)) = ((⟨s, digs v, [1]⟩, ⟨false, [], [1]⟩, 0) : Rw × Rw × Int) := by rw [rwq_int s v h0, rwq_z']
theorem down_pos (v n : Nat) : (sgn false v : Int) / ((2 ^ n : Nat) : Int) = sgn false (v / 2 ^ n) := by rw [sgn_false, sgn_false]; exact (Int.natCast_ediv _ _).symm
theorem down_neg (v n : Nat) (hv : v ≠ 0) : (sgn true v : Int) / ((2 ^ n : Nat) : Int) = sgn true (if v / 2 ^ n * 2 ^ n = v then v / 2 ^ n else v / 2 ^ n + 1) := by
  have hp : 0 < 2 ^ n := Nat.pow_pos (by omega)
  rw [sgn_true, sgn_true]
  have h := floor_neg (v - 1) (2 ^ n) hp
  rw [show -((v - 1 : Nat) : Int) - 1 = -(v : Int) by omega] at h
  rw [h]
  have e1 := Nat.div_add_mod v (2 ^ n)
  have e2 := Nat.mod_lt v hp
  have e3 : v / 2 ^ n * 2 ^ n = 2 ^ n * (v / 2 ^ n) := Nat.mul_comm _ _
  by_cases hx : v / 2 ^ n * 2 ^ n = v
  · rw [if_pos hx]
    have hq : 0 < v / 2 ^ n := by
      rcases Nat.eq_zero_or_pos (v / 2 ^ n) with h0 | h0
      · rw [h0, Nat.zero_mul] at hx; omega
      · exact h0
    have : (v - 1) / 2 ^ n = v / 2 ^ n - 1 := by
      obtain ⟨q, hq'⟩ : ∃ q, v / 2 ^ n = q + 1 := ⟨v / 2 ^ n - 1, by omega⟩
      rw [hq'] at hx ⊢
      rw [Nat.div_eq_of_lt_le (k := q)] <;> rw [Nat.add_mul] at * <;> omega
    omega
  · rw [if_neg hx]
    have : (v - 1) / 2 ^ n = v / 2 ^ n := by
      generalize v / 2 ^ n = q at *
      have e5 : 2 ^ n * q = q * 2 ^ n := Nat.mul_comm _ _
      refine Nat.div_eq_of_lt_le (by omega) ?_
      rw [Nat.add_mul]
      omega
    omega


set_option maxRecDepth 100000 in
set_option maxHeartbeats 16000000 in
theorem bdown_pos (v n : Nat) (hn : n ≤ 20000) (s2 : Bool) (b1 : List Nat) (A1 D1 A2 D2 : Option Addr) (c1 d1 c2 d2 n2 m2 : Nat) (w : World) (hl : (digs v).length ≤ 20000) (p1 : RW w w.heap.size A1 c1 (digs v)) :
    Calls Try.prog 43 #[.agg #[.bool false, .slice A1 (digs v).length c1, .slice D1 b1.length d1, .bool s2, .slice A2 n2 c2, .slice D2 m2 d2], .int .i64 (n : Int)] w (RetNE w (⟨false, digs (v / 2 ^ n), [1]⟩, ⟨false, [], [1]⟩, 0)) := by
  have kk := S2.new w [.bool false, .slice A1 (digs v).length c1, .slice D1 b1.length d1, .bool s2, .slice A2 n2 c2, .slice D2 m2 d2] [.bool false, .slice none 0 0, .slice none 0 0, .bool false, .slice none 0 0, .slice none 0 0] 26 26 6
  have BW := kk.2.2
  have hcl : (digs (v / 2 ^ n)).length ≤ 20000 := Nat.le_trans (digs_mono (Nat.div_le_self _ _)) hl
  have hDn := fun w' h => down_any A1 c1 (digs v).length (digs v) w' n (by omega) rfl h
  rw [val_digs] at hDn
  obtain ⟨d0, hd0⟩ : ∃ d0, Hid (digs (v / 2 ^ n) = d0) := ⟨_, rfl⟩
  unfold RetW at hDn
  simp only [hd0.out] at hDn hcl
  obtain ⟨W, hW⟩ : ∃ W, W = ((w.alloc (.cells #[.bool false, .slice A1 (digs v).length c1, .slice D1 b1.length d1, .bool s2, .slice A2 n2 c2, .slice D2 m2 d2] 26)).alloc (.cells #[.bool false, .slice none 0 0, .slice none 0 0, .bool false, .slice none 0 0, .slice none 0 0] 26)) := ⟨_, rfl⟩
  go_enter Try.func43, Try.ntmps43
  go_upto_region 1 with fail
  rw [← hW] at kk BW ⊢
  clear hW
  have i1 := kk.1.cell 1
  go_wp2_with fail
  refine (hDn W (st p1 BW)).mono ?_; rintro e w3 ⟨T, ct, rfl, OT, B3⟩
  clear i1 hDn
  have k3 := kk.nx B3
  have hW2 : w.heap.size + 1 < W.heap.size := kk.2.1.2
  clear kk BW
  go_upto_region 2 with fail
  have i0 := k3.1.cell 0
  go_quiet (fail)
  go_upto_region 4 with fail
  have KK := k3.nx (bdN (Below.refl _ _) nq)
  have O5 := OT.drewN nq
  have hd5 := hd0
  have hb5 := hW2
  clear i0 k3 OT B3
  obtain ⟨w5, hw5⟩ : ∃ w5, w5 = w3.drewN nq := ⟨_, rfl⟩
  rw [← hw5] at KK O5 ⊢
  clear hw5
  have hz500 : w.heap.size + 1 < w5.heap.size := KK.2.1.2
  have OV : OW w5 (w.heap.size + 2) T ct d0 := O5.base_le hb5
  have hI := int_any 0 w5 (by omega) (by omega)
  rw [rwq_zi, rwq_z'] at hI
  go_wp2_with fail
  refine hI.mono ?_; rintro e w6 ⟨E1, e1, F1, f1, E2, e2, F2, f2, rfl, N1, N2, N3, N4, B7⟩
  dsimp only [List.length_nil, List.length_cons, Nat.zero_add] at N1 N2 N3 N4 ⊢
  clear hI
  have KK := KK.nx B7
  have hz50 : w.heap.size + 1 < w5.heap.size := hz500
  have hz60 : w.heap.size + 1 < w6.heap.size := KK.2.1.2
  have OV := OV.below B7 (Nat.le_refl _)
  have L8 := bal w6 (.cells #[.bool false, .slice E1 0 e1, .slice F1 1 f1, .bool false, .slice E2 0 e2, .slice F2 1 f2] 26)
  have Sn := SB.new w6 [.bool false, .slice E1 0 e1, .slice F1 1 f1, .bool false, .slice E2 0 e2, .slice F2 1 f2] 26
  have KK := KK.nx L8
  have hvb := OV.bet
  have OV := OV.alloc (.cells #[.bool false, .slice E1 0 e1, .slice F1 1 f1, .bool false, .slice E2 0 e2, .slice F2 1 f2] 26)
  have b2 := N2.bet
  have b3 := N3.bet
  have b4 := N4.bet
  have hzn : w6.heap.size < (w6.alloc (.cells #[.bool false, .slice E1 0 e1, .slice F1 1 f1, .bool false, .slice E2 0 e2, .slice F2 1 f2] 26)).heap.size := by simp
  have hz6 : w.heap.size + 1 < w6.heap.size := hz60
  obtain ⟨W9, hW9⟩ : ∃ W9, W9 = w6.alloc (.cells #[.bool false, .slice E1 0 e1, .slice F1 1 f1, .bool false, .slice E2 0 e2, .slice F2 1 f2] 26) := ⟨_, rfl⟩
  go_upto_region 5 with fail
  rw [← hW9] at KK Sn OV L8 hzn ⊢
  have n2 := N2.below L8 (Nat.le_refl _)
  have n3 := N3.below L8 (Nat.le_refl _)
  have n4 := N4.below L8 (Nat.le_refl _)
  clear hW9 N1 N2 N3 N4 L8
  have Bd : Below W9.heap.size W9 W9.drew := Below.drew (Below.refl _ _)
  have KK := KK.nx Bd
  have Sn := Sn.nx Bd
  have OV := OV.below Bd (Nat.le_refl _)
  have n2 := n2.below Bd (Nat.le_refl _)
  have n3 := n3.below Bd (Nat.le_refl _)
  have n4 := n4.below Bd (Nat.le_refl _)
  refine AnyU.regionQ 16 17 (fun w' => w'.cell? ⟨w.heap.size, 0, none⟩ = some (.bool false)) rfl (by kernel_rfl) (by kernel_rfl) (by repeat (first | refine quiet_then ?_ | refine quiet_block ?_ | exact quiet_body)) (KK.1.cell 0) (fun Q hQK hq hns hHeld => ?_)
  have hzw : Hid (w6.heap.size < W9.drew.heap.size) := hzn
  generalize W9.drew = w10 at *
  refine AnyU.next (i := 1) (v := ?_) hq hns hHeld rfl rfl (by kernel_rfl) (Or.inl ⟨by rfl, ?_⟩) ?_
  rotate_left
  · intro w' hSw; (try dsimp only at hSw); go_simp <;> with_reducible rfl
  try simp only [List.setIfInBounds_toArray, List.set_cons_zero, List.set_cons_succ]
  refine AnyU.next (i := 3) (v := ?_) hq hns hHeld rfl rfl (by kernel_rfl) (Or.inl ⟨by rfl, ?_⟩) ?_
  rotate_left
  · intro w' hSw; (try dsimp only at hSw); go_simp <;> with_reducible rfl
  try simp only [List.setIfInBounds_toArray, List.set_cons_zero, List.set_cons_succ]
  refine AnyU.next (i := 4) (v := ?_) hq hns hHeld rfl rfl (by kernel_rfl) (Or.inl ⟨by rfl, ?_⟩) ?_
  rotate_left
  · intro w' hSw; (try dsimp only at hSw); go_simp <;> with_reducible rfl
  try simp only [List.setIfInBounds_toArray, List.set_cons_zero, List.set_cons_succ]
  refine AnyU.next (i := 5) (v := ?_) hq hns hHeld rfl rfl (by kernel_rfl) (Or.inl ⟨by rfl, ?_⟩) ?_
  rotate_left
  · intro w' hSw; (try dsimp only at hSw); go_simp <;> with_reducible rfl
  try simp only [List.setIfInBounds_toArray, List.set_cons_zero, List.set_cons_succ]
  refine AnyU.one 0 (by kernel_rfl) rfl (fun K hK => ?_)
  go_simp
  have L10 := bal w10 (.cells #[] 46)
  have OE := OW.empty w10
  have KK := KK.nx L10
  have Sn := Sn.nx L10
  have OV := OV.below L10 (Nat.le_refl _)
  have n2 := n2.below L10 (Nat.le_refl _)
  have n3 := n3.below L10 (Nat.le_refl _)
  have n4 := n4.below L10 (Nat.le_refl _)
  refine hK.out _ _ (.inr (KK.1.cell 0)) (fun hHeld => ?_)
  have hHeld := hHeld.resolve_left (by decide)
  clear hK K L10
  try simp only [List.setIfInBounds_toArray, List.set_cons_zero, List.set_cons_succ]
  refine AnyU.one 2 (by kernel_rfl) rfl (fun K hK => ?_)
  refine step_appW _ rfl _ _ rfl w10.heap.size _ _ _ [] rfl rfl OE _ _ _ d0 rfl rfl _ OV.rw (by simp; omega) (by simp) ?_; intro A6 c6 w11 O11 B11
  clear hHeld
  have hz10 : w6.heap.size < w10.heap.size := hzw.out
  have KK := KK.kb B11 (by omega)
  have Sn := Sn.below B11 (by omega)
  have n2 := n2.kb B11 (fun g' hA => by have := b2 g' hA; omega)
  have n3 := n3.kb B11 (fun g' hA => by have := b3 g' hA; omega)
  have n4 := n4.kb B11 (fun g' hA => by have := b4 g' hA; omega)
  refine hK.out _ _ (.inr (KK.1.cell 0)) (fun hHeld => ?_)
  have hHeld := hHeld.resolve_left (by decide)
  clear hK K OV OE
  try simp only [List.setIfInBounds_toArray, List.set_cons_zero, List.set_cons_succ]
  rw [List.nil_append] at O11 ⊢
  refine AnyU.next (i := 6) (v := ?_) hq hns hHeld rfl rfl (by kernel_rfl) (Or.inl ⟨by rfl, ?_⟩) ?_
  rotate_left
  · intro w' hSw; (try dsimp only at hSw); go_simp <;> with_reducible rfl
  try simp only [List.setIfInBounds_toArray, List.set_cons_zero, List.set_cons_succ]
  refine AnyU.next (i := 7) (v := undef) hq hns hHeld rfl rfl (by kernel_rfl) (Or.inr ⟨by kernel_rfl, rfl⟩) ?_
  try simp only [List.setIfInBounds_toArray, List.set_cons_zero, List.set_cons_succ]
  refine AnyU.next (i := 8) (v := undef) hq hns hHeld rfl rfl (by kernel_rfl) (Or.inr ⟨by kernel_rfl, rfl⟩) ?_
  try simp only [List.setIfInBounds_toArray, List.set_cons_zero, List.set_cons_succ]
  refine AnyU.next (i := 9) (v := undef) hq hns hHeld rfl rfl (by kernel_rfl) (Or.inr ⟨by kernel_rfl, rfl⟩) ?_
  try simp only [List.setIfInBounds_toArray, List.set_cons_zero, List.set_cons_succ]
  refine AnyU.next (i := 10) (v := ?_) hq hns hHeld rfl rfl (by kernel_rfl) (Or.inl ⟨by rfl, ?_⟩) ?_
  rotate_left
  · intro w' hSw; (try dsimp only at hSw); go_simp <;> with_reducible rfl
  try simp only [List.setIfInBounds_toArray, List.set_cons_zero, List.set_cons_succ]
  refine AnyU.next (i := 11) (v := ?_) hq hns hHeld rfl rfl (by kernel_rfl) (Or.inl ⟨by rfl, ?_⟩) ?_
  rotate_left
  · intro w' hSw; (try dsimp only at hSw); go_simp <;> with_reducible rfl
  try simp only [List.setIfInBounds_toArray, List.set_cons_zero, List.set_cons_succ]
  refine AnyU.next (i := 12) (v := ?_) hq hns hHeld rfl rfl (by kernel_rfl) (Or.inl ⟨by rfl, ?_⟩) ?_
  rotate_left
  · intro w' hSw; (try dsimp only at hSw); go_simp <;> with_reducible rfl
  try simp only [List.setIfInBounds_toArray, List.set_cons_zero, List.set_cons_succ]
  have bo := O11.bet
  have f1 := Sn.frozen 1
  have i1 := Sn.cell 1
  refine AnyU.one 13 (by kernel_rfl) rfl (fun K hK => ?_)
  go_simp
  have KK := KK.farS (g := w6.heap.size) (by omega) 1 (.slice A6 d0.length c6)
  have Sn := Sn.set 1 (.slice A6 d0.length c6)
  have n2 := n2.far (p := ⟨w6.heap.size, 1, none⟩) (fun g' hA => by have := b2 g' hA; show g' ≠ w6.heap.size; omega) (.slice A6 d0.length c6)
  have n3 := n3.far (p := ⟨w6.heap.size, 1, none⟩) (fun g' hA => by have := b3 g' hA; show g' ≠ w6.heap.size; omega) (.slice A6 d0.length c6)
  have n4 := n4.far (p := ⟨w6.heap.size, 1, none⟩) (fun g' hA => by have := b4 g' hA; show g' ≠ w6.heap.size; omega) (.slice A6 d0.length c6)
  have O11 := O11.far (p := ⟨w6.heap.size, 1, none⟩) (fun g' hA => by have := bo g' hA; show g' ≠ w6.heap.size; omega) (.slice A6 d0.length c6)
  refine hK.out _ _ (.inr (KK.1.cell 0)) (fun hHeld => ?_)
  have hHeld := hHeld.resolve_left (by decide)
  clear hK K f1 i1
  try simp only [List.setIfInBounds_toArray, List.set_cons_zero, List.set_cons_succ]
  refine AnyU.one 14 (by kernel_rfl) rfl (fun K hK => ?_)
  go_simp
  refine hK.out _ _ (.inr (KK.1.cell 0)) (fun hHeld => ?_)
  have hHeld := hHeld.resolve_left (by decide)
  clear hK K
  try simp only [List.setIfInBounds_toArray, List.set_cons_zero, List.set_cons_succ]
  refine AnyU.one 15 (by kernel_rfl) rfl (fun K hK => ?_)
  go_simp
  refine hK.out _ _ (.inr (KK.1.cell 0)) (fun hHeld => ?_)
  have hHeld := hHeld.resolve_left (by decide)
  clear hK K
  try simp only [List.setIfInBounds_toArray, List.set_cons_zero, List.set_cons_succ]
  have f1 := Sn.frozen 0
  have i1 := Sn.cell 0
  refine AnyU.one 16 (by kernel_rfl) rfl (fun K hK => ?_)
  go_simp
  have KK := KK.farS (g := w6.heap.size) (by omega) 0 (.bool false)
  have Sn := Sn.set 0 (.bool false)
  have n2 := n2.far (p := ⟨w6.heap.size, 0, none⟩) (fun g' hA => by have := b2 g' hA; show g' ≠ w6.heap.size; omega) (.bool false)
  have n3 := n3.far (p := ⟨w6.heap.size, 0, none⟩) (fun g' hA => by have := b3 g' hA; show g' ≠ w6.heap.size; omega) (.bool false)
  have n4 := n4.far (p := ⟨w6.heap.size, 0, none⟩) (fun g' hA => by have := b4 g' hA; show g' ≠ w6.heap.size; omega) (.bool false)
  have O11 := O11.far (p := ⟨w6.heap.size, 0, none⟩) (fun g' hA => by have := bo g' hA; show g' ≠ w6.heap.size; omega) (.bool false)
  refine hK.out _ _ (.inl rfl) (fun _ => ?_)
  clear hK K f1 i1
  try simp only [List.setIfInBounds_toArray, List.set_cons_zero, List.set_cons_succ]
  refine AnyU.done (by kernel_rfl) (hQK.out _ _ ?_)
  clear hQK hq hns
  obtain ⟨W12, hW12⟩ : ∃ W12, (w11.setCell ⟨w6.heap.size, 1, none⟩ (.slice A6 d0.length c6)).setCell ⟨w6.heap.size, 0, none⟩ (.bool false) = W12 := ⟨_, rfl⟩
  rw [hW12] at KK Sn O11 n2 n3 n4
  skip
  have hRC := KK.2.1
  have BB := KK.2.2
  have j0 := Sn.cell 0
  have j1 := Sn.cell 1
  have j2 := Sn.cell 2
  have j3 := Sn.cell 3
  have j4 := Sn.cell 4
  have j5 := Sn.cell 5
  rw [hW12]
  clear hW12
  go_wp2_with (refine wp_st6 rfl (.tmp 4) (.tmp 45) rfl _ rfl _ _ _ _ _ _ rfl hRC rfl rfl rfl rfl rfl rfl ?_)
  clear j0 j1 j2 j3 j4 j5
  have s6 := hRC.put6 (.bool false) (.slice A6 d0.length c6) (.slice F1 1 f1) (.bool false) (.slice E2 0 e2) (.slice F2 1 f2)
  have B6 := wr6_below (b := w.heap.size + 1) BB (by omega) (.bool false) (.slice A6 d0.length c6) (.slice F1 1 f1) (.bool false) (.slice E2 0 e2) (.slice F2 1 f2)
  have O11 := O11.far6 (b := w.heap.size + 1) (fun g' hA => by have := bo g' hA; omega) (.bool false) (.slice A6 d0.length c6) (.slice F1 1 f1) (.bool false) (.slice E2 0 e2) (.slice F2 1 f2)
  have n2 := n2.far6 (b := w.heap.size + 1) (fun g' hA => by have := b2 g' hA; omega) (.bool false) (.slice A6 d0.length c6) (.slice F1 1 f1) (.bool false) (.slice E2 0 e2) (.slice F2 1 f2)
  have n3 := n3.far6 (b := w.heap.size + 1) (fun g' hA => by have := b3 g' hA; omega) (.bool false) (.slice A6 d0.length c6) (.slice F1 1 f1) (.bool false) (.slice E2 0 e2) (.slice F2 1 f2)
  have n4 := n4.far6 (b := w.heap.size + 1) (fun g' hA => by have := b4 g' hA; omega) (.bool false) (.slice A6 d0.length c6) (.slice F1 1 f1) (.bool false) (.slice E2 0 e2) (.slice F2 1 f2)
  have r0' := s6.cell 0
  have r1' := s6.cell 1
  have r2' := s6.cell 2
  have r3' := s6.cell 3
  have r4' := s6.cell 4
  have r5' := s6.cell 5
  refine bodyPost_ret (v := .tuple #[.agg #[.bool false, .slice A6 d0.length c6, .slice F1 1 f1, .bool false, .slice E2 0 e2, .slice F2 1 f2], .int .i64 0]) (by simp [results, r0', r1', r2', r3', r4', r5', go_sem]) rfl ?_
  rw [hd5.out]
  have hz56 : w5.heap.size ≤ w6.heap.size := B7.size
  exact ⟨A6, c6, F1, f1, E2, e2, F2, f2, rfl, O11.base_le (by omega), n2.base_le (by omega), n3.base_le (by omega), n4.base_le (by omega), B6⟩


set_option maxRecDepth 100000 in
set_option maxHeartbeats 16000000 in
theorem bdown_exact (v n : Nat) (hn : n ≤ 20000) (s2 : Bool) (b1 : List Nat) (A1 D1 A2 D2 : Option Addr) (c1 d1 c2 d2 n2 m2 : Nat) (w : World) (hv : v ≠ 0) (he : v / 2 ^ n * 2 ^ n = v) (hl : (digs v).length ≤ 20000) (p1 : RW w w.heap.size A1 c1 (digs v)) :
    Calls Try.prog 43 #[.agg #[.bool true, .slice A1 (digs v).length c1, .slice D1 b1.length d1, .bool s2, .slice A2 n2 c2, .slice D2 m2 d2], .int .i64 (n : Int)] w (RetNE w (⟨true, digs (v / 2 ^ n), [1]⟩, ⟨false, [], [1]⟩, 0)) := by
  have kk := S2.new w [.bool true, .slice A1 (digs v).length c1, .slice D1 b1.length d1, .bool s2, .slice A2 n2 c2, .slice D2 m2 d2] [.bool false, .slice none 0 0, .slice none 0 0, .bool false, .slice none 0 0, .slice none 0 0] 26 26 6
  have BW := kk.2.2
  have hcl : (digs (v / 2 ^ n)).length ≤ 20000 := Nat.le_trans (digs_mono (Nat.div_le_self _ _)) hl
  have hDn := fun w' h => down_any A1 c1 (digs v).length (digs v) w' n (by omega) rfl h
  rw [val_digs] at hDn
  have hUp := fun A c w' h => up_any A c (digs (v / 2 ^ n)).length (digs (v / 2 ^ n)) w' n (by omega) rfl h (by omega)
  rw [val_digs] at hUp
  have hOr := fun A c w' h1 h2 => order_any A A1 c c1 _ _ (digs (v / 2 ^ n * 2 ^ n)) (digs v) w' rfl rfl h1 h2 (Nrm_digs _) (Nrm_digs _)
  rw [val_digs, val_digs] at hOr
  have hcm : cmpN (v / 2 ^ n * 2 ^ n) v = 0 := by rw [he]; unfold cmpN; simp
  rw [hcm] at hOr
  clear hcm
  obtain ⟨d0, hd0⟩ : ∃ d0, Hid (digs (v / 2 ^ n) = d0) := ⟨_, rfl⟩
  unfold RetW at hDn hUp
  obtain ⟨u0, hu0⟩ : ∃ u0, Hid (digs (v / 2 ^ n * 2 ^ n) = u0) := ⟨_, rfl⟩
  simp only [hu0.out] at hUp hOr
  have HE := Lib.hid he
  clear he
  have HV := Lib.hid hv
  clear hv
  simp only [hd0.out] at hDn hcl hUp
  obtain ⟨W, hW⟩ : ∃ W, W = ((w.alloc (.cells #[.bool true, .slice A1 (digs v).length c1, .slice D1 b1.length d1, .bool s2, .slice A2 n2 c2, .slice D2 m2 d2] 26)).alloc (.cells #[.bool false, .slice none 0 0, .slice none 0 0, .bool false, .slice none 0 0, .slice none 0 0] 26)) := ⟨_, rfl⟩
  go_enter Try.func43, Try.ntmps43
  go_upto_region 1 with fail
  rw [← hW] at kk BW ⊢
  clear hW
  have i1 := kk.1.cell 1
  go_wp2_with fail
  refine (hDn W (st p1 BW)).mono ?_; rintro e w3 ⟨T, ct, rfl, OT, B3⟩
  clear i1 hDn
  have k3 := kk.nx B3
  have hW2 : w.heap.size + 1 < W.heap.size := kk.2.1.2
  clear kk BW
  go_upto_region 2 with fail
  have k0 : S2B w w3 w.heap.size [.bool true, .slice A1 (digs v).length c1, .slice D1 b1.length d1, .bool s2, .slice A2 n2 c2, .slice D2 m2 d2] 6 w3 := ⟨k3, Below.refl _ _⟩
  skip
  have k0d := k0.dr
  have k0s := And.intro (k0d.1.1.cell 0) (And.intro (k0d.1.1.cell 1) (k0d))
  go_region_held3 (fun w' => w'.cell? ⟨w.heap.size, 0, none⟩ = some (.bool true) ∧ w'.cell? ⟨w.heap.size, 1, none⟩ = some (.slice A1 (digs v).length c1) ∧ S2B w w3 w.heap.size [.bool true, .slice A1 (digs v).length c1, .slice D1 b1.length d1, .bool s2, .slice A2 n2 c2, .slice D2 m2 d2] 6 w')
    (first
      | with_reducible exact k0s
      | (have s1 := (by with_reducible assumption : _ ∧ _ ∧ S2B w w3 w.heap.size [.bool true, .slice A1 (digs v).length c1, .slice D1 b1.length d1, .bool s2, .slice A2 n2 c2, .slice D2 m2 d2] 6 _).2.2.nx BX; have q0_ := s1.1.1.cell 0; have q1_ := s1.1.1.cell 1; with_reducible exact ⟨q0_, q1_, s1⟩))
    (first
      | (go_at_call 47; have hh := (by with_reducible assumption : _ ∧ _ ∧ S2B w w3 w.heap.size [.bool true, .slice A1 (digs v).length c1, .slice D1 b1.length d1, .bool s2, .slice A2 n2 c2, .slice D2 m2 d2] 6 _).2.2; refine (hUp T ct _ ((OT.below hh.2 (Nat.le_refl _)).rw)).mono ?_; rintro e w21 ⟨U, cu, rfl, OU, BX⟩)
      | (go_at_call 76; have hh := (by with_reducible assumption : _ ∧ _ ∧ S2B w w3 w.heap.size [.bool true, .slice A1 (digs v).length c1, .slice D1 b1.length d1, .bool s2, .slice A2 n2 c2, .slice D2 m2 d2] 6 _).2.2; refine (hOr U cu _ OU.rw (st p1 hh.1.2.2)).mono ?_; rintro e w22 ⟨rfl, qq, rfl⟩; have BX := bdN (Below.refl w21.heap.size w21) qq; have kk := hh.nx BX))
  have KK := kk.1
  have O5 := (OT.below kk.2 (Nat.le_refl _))
  clear kk
  go_upto_region 4 with fail
  obtain ⟨w5, hw5⟩ : ∃ w5, w5 = w21.drewN qq := ⟨_, rfl⟩
  rw [← hw5] at KK O5 ⊢
  clear hw5
  have hd5 := hd0
  have hb5 := hW2
  have hz500 : w.heap.size + 1 < w5.heap.size := KK.2.1.2
  have OV : OW w5 (w.heap.size + 2) T ct d0 := O5.base_le hb5
  have hI := int_any 0 w5 (by omega) (by omega)
  rw [rwq_zi, rwq_z'] at hI
  go_wp2_with fail
  refine hI.mono ?_; rintro e w6 ⟨E1, e1, F1, f1, E2, e2, F2, f2, rfl, N1, N2, N3, N4, B7⟩
  dsimp only [List.length_nil, List.length_cons, Nat.zero_add] at N1 N2 N3 N4 ⊢
  clear hI
  have KK := KK.nx B7
  have hz50 : w.heap.size + 1 < w5.heap.size := hz500
  have hz60 : w.heap.size + 1 < w6.heap.size := KK.2.1.2
  have OV := OV.below B7 (Nat.le_refl _)
  have L8 := bal w6 (.cells #[.bool false, .slice E1 0 e1, .slice F1 1 f1, .bool false, .slice E2 0 e2, .slice F2 1 f2] 26)
  have Sn := SB.new w6 [.bool false, .slice E1 0 e1, .slice F1 1 f1, .bool false, .slice E2 0 e2, .slice F2 1 f2] 26
  have KK := KK.nx L8
  have hvb := OV.bet
  have OV := OV.alloc (.cells #[.bool false, .slice E1 0 e1, .slice F1 1 f1, .bool false, .slice E2 0 e2, .slice F2 1 f2] 26)
  have b2 := N2.bet
  have b3 := N3.bet
  have b4 := N4.bet
  have hzn : w6.heap.size < (w6.alloc (.cells #[.bool false, .slice E1 0 e1, .slice F1 1 f1, .bool false, .slice E2 0 e2, .slice F2 1 f2] 26)).heap.size := by simp
  have hz6 : w.heap.size + 1 < w6.heap.size := hz60
  obtain ⟨W9, hW9⟩ : ∃ W9, W9 = w6.alloc (.cells #[.bool false, .slice E1 0 e1, .slice F1 1 f1, .bool false, .slice E2 0 e2, .slice F2 1 f2] 26) := ⟨_, rfl⟩
  go_upto_region 5 with fail
  rw [← hW9] at KK Sn OV L8 hzn ⊢
  have n2 := N2.below L8 (Nat.le_refl _)
  have n3 := N3.below L8 (Nat.le_refl _)
  have n4 := N4.below L8 (Nat.le_refl _)
  clear hW9 N1 N2 N3 N4 L8
  have Bd : Below W9.heap.size W9 W9.drew := Below.drew (Below.refl _ _)
  have KK := KK.nx Bd
  have Sn := Sn.nx Bd
  have OV := OV.below Bd (Nat.le_refl _)
  have n2 := n2.below Bd (Nat.le_refl _)
  have n3 := n3.below Bd (Nat.le_refl _)
  have n4 := n4.below Bd (Nat.le_refl _)
  have hdp : Hid (0 < d0.length) := by
    show 0 < _
    rw [← hd5.out]
    refine Nat.pos_of_ne_zero (fun h => ?_)
    have h := digs_len0.1 h
    have h1 := HE.out
    rw [h, Nat.zero_mul] at h1
    exact HV.out h1.symm
  have hdl : decide (0 < d0.length) = true := decide_eq_true hdp.out
  refine AnyU.regionQ 16 17 (fun w' => w'.cell? ⟨w.heap.size, 0, none⟩ = some (.bool true)) rfl (by kernel_rfl) (by kernel_rfl) (by repeat (first | refine quiet_then ?_ | refine quiet_block ?_ | exact quiet_body)) (KK.1.cell 0) (fun Q hQK hq hns hHeld => ?_)
  have hzw : Hid (w6.heap.size < W9.drew.heap.size) := hzn
  generalize W9.drew = w10 at *
  refine AnyU.next (i := 1) (v := ?_) hq hns hHeld rfl rfl (by kernel_rfl) (Or.inl ⟨by rfl, ?_⟩) ?_
  rotate_left
  · intro w' hSw; (try dsimp only at hSw); go_simp <;> with_reducible rfl
  try simp only [List.setIfInBounds_toArray, List.set_cons_zero, List.set_cons_succ]
  refine AnyU.next (i := 3) (v := ?_) hq hns hHeld rfl rfl (by kernel_rfl) (Or.inl ⟨by rfl, ?_⟩) ?_
  rotate_left
  · intro w' hSw; (try dsimp only at hSw); go_simp <;> with_reducible rfl
  try simp only [List.setIfInBounds_toArray, List.set_cons_zero, List.set_cons_succ]
  refine AnyU.next (i := 4) (v := ?_) hq hns hHeld rfl rfl (by kernel_rfl) (Or.inl ⟨by rfl, ?_⟩) ?_
  rotate_left
  · intro w' hSw; (try dsimp only at hSw); go_simp <;> with_reducible rfl
  try simp only [List.setIfInBounds_toArray, List.set_cons_zero, List.set_cons_succ]
  refine AnyU.next (i := 5) (v := ?_) hq hns hHeld rfl rfl (by kernel_rfl) (Or.inl ⟨by rfl, ?_⟩) ?_
  rotate_left
  · intro w' hSw; (try dsimp only at hSw); go_simp <;> with_reducible rfl
  try simp only [List.setIfInBounds_toArray, List.set_cons_zero, List.set_cons_succ]
  refine AnyU.one 0 (by kernel_rfl) rfl (fun K hK => ?_)
  go_simp
  have L10 := bal w10 (.cells #[] 46)
  have OE := OW.empty w10
  have KK := KK.nx L10
  have Sn := Sn.nx L10
  have OV := OV.below L10 (Nat.le_refl _)
  have n2 := n2.below L10 (Nat.le_refl _)
  have n3 := n3.below L10 (Nat.le_refl _)
  have n4 := n4.below L10 (Nat.le_refl _)
  refine hK.out _ _ (.inr (KK.1.cell 0)) (fun hHeld => ?_)
  have hHeld := hHeld.resolve_left (by decide)
  clear hK K L10
  try simp only [List.setIfInBounds_toArray, List.set_cons_zero, List.set_cons_succ]
  refine AnyU.one 2 (by kernel_rfl) rfl (fun K hK => ?_)
  refine step_appW _ rfl _ _ rfl w10.heap.size _ _ _ [] rfl rfl OE _ _ _ d0 rfl rfl _ OV.rw (by simp; omega) (by simp) ?_; intro A6 c6 w11 O11 B11
  clear hHeld
  have hz10 : w6.heap.size < w10.heap.size := hzw.out
  have KK := KK.kb B11 (by omega)
  have Sn := Sn.below B11 (by omega)
  have n2 := n2.kb B11 (fun g' hA => by have := b2 g' hA; omega)
  have n3 := n3.kb B11 (fun g' hA => by have := b3 g' hA; omega)
  have n4 := n4.kb B11 (fun g' hA => by have := b4 g' hA; omega)
  refine hK.out _ _ (.inr (KK.1.cell 0)) (fun hHeld => ?_)
  have hHeld := hHeld.resolve_left (by decide)
  clear hK K OV OE
  try simp only [List.setIfInBounds_toArray, List.set_cons_zero, List.set_cons_succ]
  rw [List.nil_append] at O11 ⊢
  refine AnyU.next (i := 6) (v := ?_) hq hns hHeld rfl rfl (by kernel_rfl) (Or.inl ⟨by rfl, ?_⟩) ?_
  rotate_left
  · intro w' hSw; (try dsimp only at hSw); go_simp <;> with_reducible rfl
  try simp only [List.setIfInBounds_toArray, List.set_cons_zero, List.set_cons_succ]
  refine AnyU.next (i := 7) (v := ?_) hq hns hHeld rfl rfl (by kernel_rfl) (Or.inl ⟨by rfl, ?_⟩) ?_
  rotate_left
  · intro w' hSw; (try dsimp only at hSw); go_simp <;> with_reducible rfl
  try simp only [List.setIfInBounds_toArray, List.set_cons_zero, List.set_cons_succ]
  refine AnyU.next (i := 8) (v := ?_) hq hns hHeld rfl rfl (by kernel_rfl) (Or.inl ⟨by rfl, ?_⟩) ?_
  rotate_left
  · intro w' hSw; (try dsimp only at hSw); go_simp <;> with_reducible rfl
  try simp only [List.setIfInBounds_toArray, List.set_cons_zero, List.set_cons_succ]
  refine AnyU.next (i := 9) (v := ?_) hq hns hHeld rfl rfl (by kernel_rfl) (Or.inl ⟨by rfl, ?_⟩) ?_
  rotate_left
  · intro w' hSw; (try dsimp only at hSw); go_simp <;> with_reducible rfl
  try simp only [List.setIfInBounds_toArray, List.set_cons_zero, List.set_cons_succ]
  refine AnyU.next (i := 10) (v := ?_) hq hns hHeld rfl rfl (by kernel_rfl) (Or.inl ⟨by rfl, ?_⟩) ?_
  rotate_left
  · intro w' hSw; (try dsimp only at hSw); go_simp <;> with_reducible rfl
  try simp only [List.setIfInBounds_toArray, List.set_cons_zero, List.set_cons_succ]
  refine AnyU.next (i := 11) (v := ?_) hq hns hHeld rfl rfl (by kernel_rfl) (Or.inl ⟨by rfl, ?_⟩) ?_
  rotate_left
  · intro w' hSw; (try dsimp only at hSw); go_simp <;> with_reducible rfl
  try simp only [List.setIfInBounds_toArray, List.set_cons_zero, List.set_cons_succ]
  refine AnyU.next (i := 12) (v := ?_) hq hns hHeld rfl rfl (by kernel_rfl) (Or.inl ⟨by rfl, ?_⟩) ?_
  rotate_left
  · intro w' hSw; (try dsimp only at hSw); go_simp <;> with_reducible rfl
  try simp only [List.setIfInBounds_toArray, List.set_cons_zero, List.set_cons_succ]
  have bo := O11.bet
  have f1 := Sn.frozen 1
  have i1 := Sn.cell 1
  refine AnyU.one 13 (by kernel_rfl) rfl (fun K hK => ?_)
  go_simp
  have KK := KK.farS (g := w6.heap.size) (by omega) 1 (.slice A6 d0.length c6)
  have Sn := Sn.set 1 (.slice A6 d0.length c6)
  have n2 := n2.far (p := ⟨w6.heap.size, 1, none⟩) (fun g' hA => by have := b2 g' hA; show g' ≠ w6.heap.size; omega) (.slice A6 d0.length c6)
  have n3 := n3.far (p := ⟨w6.heap.size, 1, none⟩) (fun g' hA => by have := b3 g' hA; show g' ≠ w6.heap.size; omega) (.slice A6 d0.length c6)
  have n4 := n4.far (p := ⟨w6.heap.size, 1, none⟩) (fun g' hA => by have := b4 g' hA; show g' ≠ w6.heap.size; omega) (.slice A6 d0.length c6)
  have O11 := O11.far (p := ⟨w6.heap.size, 1, none⟩) (fun g' hA => by have := bo g' hA; show g' ≠ w6.heap.size; omega) (.slice A6 d0.length c6)
  refine hK.out _ _ (.inr (KK.1.cell 0)) (fun hHeld => ?_)
  have hHeld := hHeld.resolve_left (by decide)
  clear hK K f1 i1
  try simp only [List.setIfInBounds_toArray, List.set_cons_zero, List.set_cons_succ]
  refine AnyU.one 14 (by kernel_rfl) rfl (fun K hK => ?_)
  go_simp
  refine hK.out _ _ (.inr (KK.1.cell 0)) (fun hHeld => ?_)
  have hHeld := hHeld.resolve_left (by decide)
  clear hK K
  try simp only [List.setIfInBounds_toArray, List.set_cons_zero, List.set_cons_succ]
  refine AnyU.one 15 (by kernel_rfl) rfl (fun K hK => ?_)
  go_simp
  refine hK.out _ _ (.inr (KK.1.cell 0)) (fun hHeld => ?_)
  have hHeld := hHeld.resolve_left (by decide)
  clear hK K
  try simp only [List.setIfInBounds_toArray, List.set_cons_zero, List.set_cons_succ]
  have f1 := Sn.frozen 0
  have i1 := Sn.cell 0
  refine AnyU.one 16 (by kernel_rfl) rfl (fun K hK => ?_)
  go_simp
  have KK := KK.farS (g := w6.heap.size) (by omega) 0 (.bool true)
  have Sn := Sn.set 0 (.bool true)
  have n2 := n2.far (p := ⟨w6.heap.size, 0, none⟩) (fun g' hA => by have := b2 g' hA; show g' ≠ w6.heap.size; omega) (.bool true)
  have n3 := n3.far (p := ⟨w6.heap.size, 0, none⟩) (fun g' hA => by have := b3 g' hA; show g' ≠ w6.heap.size; omega) (.bool true)
  have n4 := n4.far (p := ⟨w6.heap.size, 0, none⟩) (fun g' hA => by have := b4 g' hA; show g' ≠ w6.heap.size; omega) (.bool true)
  have O11 := O11.far (p := ⟨w6.heap.size, 0, none⟩) (fun g' hA => by have := bo g' hA; show g' ≠ w6.heap.size; omega) (.bool true)
  refine hK.out _ _ (.inl rfl) (fun _ => ?_)
  clear hK K f1 i1
  try simp only [List.setIfInBounds_toArray, List.set_cons_zero, List.set_cons_succ]
  refine AnyU.done (by kernel_rfl) (hQK.out _ _ ?_)
  clear hQK hq hns
  obtain ⟨W12, hW12⟩ : ∃ W12, (w11.setCell ⟨w6.heap.size, 1, none⟩ (.slice A6 d0.length c6)).setCell ⟨w6.heap.size, 0, none⟩ (.bool true) = W12 := ⟨_, rfl⟩
  rw [hW12] at KK Sn O11 n2 n3 n4
  skip
  have hRC := KK.2.1
  have BB := KK.2.2
  have j0 := Sn.cell 0
  have j1 := Sn.cell 1
  have j2 := Sn.cell 2
  have j3 := Sn.cell 3
  have j4 := Sn.cell 4
  have j5 := Sn.cell 5
  rw [hW12]
  clear hW12
  go_wp2_with (refine wp_st6 rfl (.tmp 4) (.tmp 45) rfl _ rfl _ _ _ _ _ _ rfl hRC rfl rfl rfl rfl rfl rfl ?_)
  clear j0 j1 j2 j3 j4 j5
  have s6 := hRC.put6 (.bool true) (.slice A6 d0.length c6) (.slice F1 1 f1) (.bool false) (.slice E2 0 e2) (.slice F2 1 f2)
  have B6 := wr6_below (b := w.heap.size + 1) BB (by omega) (.bool true) (.slice A6 d0.length c6) (.slice F1 1 f1) (.bool false) (.slice E2 0 e2) (.slice F2 1 f2)
  have O11 := O11.far6 (b := w.heap.size + 1) (fun g' hA => by have := bo g' hA; omega) (.bool true) (.slice A6 d0.length c6) (.slice F1 1 f1) (.bool false) (.slice E2 0 e2) (.slice F2 1 f2)
  have n2 := n2.far6 (b := w.heap.size + 1) (fun g' hA => by have := b2 g' hA; omega) (.bool true) (.slice A6 d0.length c6) (.slice F1 1 f1) (.bool false) (.slice E2 0 e2) (.slice F2 1 f2)
  have n3 := n3.far6 (b := w.heap.size + 1) (fun g' hA => by have := b3 g' hA; omega) (.bool true) (.slice A6 d0.length c6) (.slice F1 1 f1) (.bool false) (.slice E2 0 e2) (.slice F2 1 f2)
  have n4 := n4.far6 (b := w.heap.size + 1) (fun g' hA => by have := b4 g' hA; omega) (.bool true) (.slice A6 d0.length c6) (.slice F1 1 f1) (.bool false) (.slice E2 0 e2) (.slice F2 1 f2)
  have r0' := s6.cell 0
  have r1' := s6.cell 1
  have r2' := s6.cell 2
  have r3' := s6.cell 3
  have r4' := s6.cell 4
  have r5' := s6.cell 5
  refine bodyPost_ret (v := .tuple #[.agg #[.bool true, .slice A6 d0.length c6, .slice F1 1 f1, .bool false, .slice E2 0 e2, .slice F2 1 f2], .int .i64 0]) (by simp [results, r0', r1', r2', r3', r4', r5', go_sem]) rfl ?_
  rw [hd5.out]
  have hz56 : w5.heap.size ≤ w6.heap.size := B7.size
  exact ⟨A6, c6, F1, f1, E2, e2, F2, f2, rfl, O11.base_le (by omega), n2.base_le (by omega), n3.base_le (by omega), n4.base_le (by omega), B6⟩


set_option maxRecDepth 100000 in
set_option maxHeartbeats 16000000 in
theorem bdown_more (v n : Nat) (hn : n ≤ 20000) (s2 : Bool) (b1 : List Nat) (A1 D1 A2 D2 : Option Addr) (c1 d1 c2 d2 n2 m2 : Nat) (w : World) (he : ¬ v / 2 ^ n * 2 ^ n = v) (hl : (digs v).length ≤ 20000) (p1 : RW w w.heap.size A1 c1 (digs v)) :
    Calls Try.prog 43 #[.agg #[.bool true, .slice A1 (digs v).length c1, .slice D1 b1.length d1, .bool s2, .slice A2 n2 c2, .slice D2 m2 d2], .int .i64 (n : Int)] w (RetNE w (⟨true, digs (v / 2 ^ n + 1), [1]⟩, ⟨false, [], [1]⟩, 0)) := by
  have kk := S2.new w [.bool true, .slice A1 (digs v).length c1, .slice D1 b1.length d1, .bool s2, .slice A2 n2 c2, .slice D2 m2 d2] [.bool false, .slice none 0 0, .slice none 0 0, .bool false, .slice none 0 0, .slice none 0 0] 26 26 6
  have BW := kk.2.2
  have hcl : (digs (v / 2 ^ n)).length ≤ 20000 := Nat.le_trans (digs_mono (Nat.div_le_self _ _)) hl
  have hDn := fun w' h => down_any A1 c1 (digs v).length (digs v) w' n (by omega) rfl h
  rw [val_digs] at hDn
  have hUp := fun A c w' h => up_any A c (digs (v / 2 ^ n)).length (digs (v / 2 ^ n)) w' n (by omega) rfl h (by omega)
  rw [val_digs] at hUp
  have hOr := fun A c w' h1 h2 => order_any A A1 c c1 _ _ (digs (v / 2 ^ n * 2 ^ n)) (digs v) w' rfl rfl h1 h2 (Nrm_digs _) (Nrm_digs _)
  rw [val_digs, val_digs] at hOr
  obtain ⟨cm, hcm⟩ : ∃ z, Hid (cmpN (v / 2 ^ n * 2 ^ n) v = z) := ⟨_, rfl⟩
  have hcn : (cm != 0) = true := by
    have h1 := hcm.out
    rw [bne_iff_ne, ← h1]
    unfold cmpN
    split
    · decide
    · decide
  rw [hcm.out] at hOr
  obtain ⟨d0, hd0⟩ : ∃ d0, Hid (digs (v / 2 ^ n) = d0) := ⟨_, rfl⟩
  unfold RetW at hDn hUp
  obtain ⟨u0, hu0⟩ : ∃ u0, Hid (digs (v / 2 ^ n * 2 ^ n) = u0) := ⟨_, rfl⟩
  simp only [hu0.out] at hUp hOr
  have HE := Lib.hid he
  clear he
  simp only [hd0.out] at hDn hcl hUp
  obtain ⟨W, hW⟩ : ∃ W, W = ((w.alloc (.cells #[.bool true, .slice A1 (digs v).length c1, .slice D1 b1.length d1, .bool s2, .slice A2 n2 c2, .slice D2 m2 d2] 26)).alloc (.cells #[.bool false, .slice none 0 0, .slice none 0 0, .bool false, .slice none 0 0, .slice none 0 0] 26)) := ⟨_, rfl⟩
  go_enter Try.func43, Try.ntmps43
  go_upto_region 1 with fail
  rw [← hW] at kk BW ⊢
  clear hW
  have i1 := kk.1.cell 1
  go_wp2_with fail
  refine (hDn W (st p1 BW)).mono ?_; rintro e w3 ⟨T, ct, rfl, OT, B3⟩
  clear i1 hDn
  have k3 := kk.nx B3
  have hW2 : w.heap.size + 1 < W.heap.size := kk.2.1.2
  clear kk BW
  go_upto_region 2 with fail
  have k0 : S2B w w3 w.heap.size [.bool true, .slice A1 (digs v).length c1, .slice D1 b1.length d1, .bool s2, .slice A2 n2 c2, .slice D2 m2 d2] 6 w3 := ⟨k3, Below.refl _ _⟩
  skip
  have k0d := k0.dr
  have k0s := And.intro (k0d.1.1.cell 0) (And.intro (k0d.1.1.cell 1) (k0d))
  go_region_held3 (fun w' => w'.cell? ⟨w.heap.size, 0, none⟩ = some (.bool true) ∧ w'.cell? ⟨w.heap.size, 1, none⟩ = some (.slice A1 (digs v).length c1) ∧ S2B w w3 w.heap.size [.bool true, .slice A1 (digs v).length c1, .slice D1 b1.length d1, .bool s2, .slice A2 n2 c2, .slice D2 m2 d2] 6 w')
    (first
      | with_reducible exact k0s
      | (have s1 := (by with_reducible assumption : _ ∧ _ ∧ S2B w w3 w.heap.size [.bool true, .slice A1 (digs v).length c1, .slice D1 b1.length d1, .bool s2, .slice A2 n2 c2, .slice D2 m2 d2] 6 _).2.2.nx BX; have q0_ := s1.1.1.cell 0; have q1_ := s1.1.1.cell 1; with_reducible exact ⟨q0_, q1_, s1⟩))
    (first
      | (go_at_call 47; have hh := (by with_reducible assumption : _ ∧ _ ∧ S2B w w3 w.heap.size [.bool true, .slice A1 (digs v).length c1, .slice D1 b1.length d1, .bool s2, .slice A2 n2 c2, .slice D2 m2 d2] 6 _).2.2; refine (hUp T ct _ ((OT.below hh.2 (Nat.le_refl _)).rw)).mono ?_; rintro e w21 ⟨U, cu, rfl, OU, BX⟩)
      | (go_at_call 76; have hh := (by with_reducible assumption : _ ∧ _ ∧ S2B w w3 w.heap.size [.bool true, .slice A1 (digs v).length c1, .slice D1 b1.length d1, .bool s2, .slice A2 n2 c2, .slice D2 m2 d2] 6 _).2.2; refine (hOr U cu _ OU.rw (st p1 hh.1.2.2)).mono ?_; rintro e w22 ⟨rfl, qq, rfl⟩; have BX := bdN (Below.refl w21.heap.size w21) qq; have kk := hh.nx BX))
  have KK := kk.1
  have O5 := (OT.below kk.2 (Nat.le_refl _))
  clear kk
  have L4 := bal (w21.drewN qq) (.cells #[.int .u32 (1 : Int)] 46)
  have hone : RW ((w21.drewN qq).alloc (.cells #[.int .u32 (1 : Int)] 46)) ((w21.drewN qq).heap.size + 1) (some ⟨(w21.drewN qq).heap.size, 0, none⟩) 1 [1] := RW.one (w21.drewN qq) 46 (x := 1) (by omega)
  have KK := KK.nx L4
  have O5 := O5.alloc (.cells #[.int .u32 (1 : Int)] 46)
  have hz5 := KK.2.1.2
  have hPl := plus_any T (some ⟨(w21.drewN qq).heap.size, 0, none⟩) ct 1 d0.length 1 d0 [1] _ rfl rfl O5.rw (hone.more (by simp)) (by omega) (by simp)
  have hvl : val d0 + val [1] = v / 2 ^ n + 1 := by rw [← hd0.out, val_digs]; rfl
  rw [hvl] at hPl
  obtain ⟨d5, hd5⟩ : ∃ d5, Hid (digs (v / 2 ^ n + 1) = d5) := ⟨_, rfl⟩
  have hd5l : d5.length ≤ 20001 := by
    rw [← hd5.out]
    exact digs_add (k := 20000) (by rw [hd0.out]; exact hcl) (by rw [digs_one1]; simp)
  unfold RetW at hPl
  rw [hd5.out] at hPl
  clear hvl
  go_wp2_with fail
  refine hPl.mono ?_; rintro e w5 ⟨T5, ct5, rfl, O6, B6⟩
  have KK := KK.nx B6
  clear O5 hPl hone
  have hb5 := hz5
  go_upto_region 4 with fail
  have hz500 : w.heap.size + 1 < w5.heap.size := KK.2.1.2
  have OV : OW w5 (w.heap.size + 2) T5 ct5 d5 := O6.base_le hb5
  have hI := int_any 0 w5 (by omega) (by omega)
  rw [rwq_zi, rwq_z'] at hI
  go_wp2_with fail
  refine hI.mono ?_; rintro e w6 ⟨E1, e1, F1, f1, E2, e2, F2, f2, rfl, N1, N2, N3, N4, B7⟩
  dsimp only [List.length_nil, List.length_cons, Nat.zero_add] at N1 N2 N3 N4 ⊢
  clear hI
  have KK := KK.nx B7
  have hz50 : w.heap.size + 1 < w5.heap.size := hz500
  have hz60 : w.heap.size + 1 < w6.heap.size := KK.2.1.2
  have OV := OV.below B7 (Nat.le_refl _)
  have L8 := bal w6 (.cells #[.bool false, .slice E1 0 e1, .slice F1 1 f1, .bool false, .slice E2 0 e2, .slice F2 1 f2] 26)
  have Sn := SB.new w6 [.bool false, .slice E1 0 e1, .slice F1 1 f1, .bool false, .slice E2 0 e2, .slice F2 1 f2] 26
  have KK := KK.nx L8
  have hvb := OV.bet
  have OV := OV.alloc (.cells #[.bool false, .slice E1 0 e1, .slice F1 1 f1, .bool false, .slice E2 0 e2, .slice F2 1 f2] 26)
  have b2 := N2.bet
  have b3 := N3.bet
  have b4 := N4.bet
  have hzn : w6.heap.size < (w6.alloc (.cells #[.bool false, .slice E1 0 e1, .slice F1 1 f1, .bool false, .slice E2 0 e2, .slice F2 1 f2] 26)).heap.size := by simp
  have hz6 : w.heap.size + 1 < w6.heap.size := hz60
  obtain ⟨W9, hW9⟩ : ∃ W9, W9 = w6.alloc (.cells #[.bool false, .slice E1 0 e1, .slice F1 1 f1, .bool false, .slice E2 0 e2, .slice F2 1 f2] 26) := ⟨_, rfl⟩
  go_upto_region 5 with fail
  rw [← hW9] at KK Sn OV L8 hzn ⊢
  have n2 := N2.below L8 (Nat.le_refl _)
  have n3 := N3.below L8 (Nat.le_refl _)
  have n4 := N4.below L8 (Nat.le_refl _)
  clear hW9 N1 N2 N3 N4 L8
  have Bd : Below W9.heap.size W9 W9.drew := Below.drew (Below.refl _ _)
  have KK := KK.nx Bd
  have Sn := Sn.nx Bd
  have OV := OV.below Bd (Nat.le_refl _)
  have n2 := n2.below Bd (Nat.le_refl _)
  have n3 := n3.below Bd (Nat.le_refl _)
  have n4 := n4.below Bd (Nat.le_refl _)
  have hdp : Hid (0 < d5.length) := by
    show 0 < _
    rw [← hd5.out]
    refine Nat.pos_of_ne_zero (fun h => ?_)
    have h := digs_len0.1 h
    exact absurd h (Nat.succ_ne_zero _)
  have hdl : decide (0 < d5.length) = true := decide_eq_true hdp.out
  refine AnyU.regionQ 16 17 (fun w' => w'.cell? ⟨w.heap.size, 0, none⟩ = some (.bool true)) rfl (by kernel_rfl) (by kernel_rfl) (by repeat (first | refine quiet_then ?_ | refine quiet_block ?_ | exact quiet_body)) (KK.1.cell 0) (fun Q hQK hq hns hHeld => ?_)
  have hzw : Hid (w6.heap.size < W9.drew.heap.size) := hzn
  generalize W9.drew = w10 at *
  refine AnyU.next (i := 1) (v := ?_) hq hns hHeld rfl rfl (by kernel_rfl) (Or.inl ⟨by rfl, ?_⟩) ?_
  rotate_left
  · intro w' hSw; (try dsimp only at hSw); go_simp <;> with_reducible rfl
  try simp only [List.setIfInBounds_toArray, List.set_cons_zero, List.set_cons_succ]
  refine AnyU.next (i := 3) (v := ?_) hq hns hHeld rfl rfl (by kernel_rfl) (Or.inl ⟨by rfl, ?_⟩) ?_
  rotate_left
  · intro w' hSw; (try dsimp only at hSw); go_simp <;> with_reducible rfl
  try simp only [List.setIfInBounds_toArray, List.set_cons_zero, List.set_cons_succ]
  refine AnyU.next (i := 4) (v := ?_) hq hns hHeld rfl rfl (by kernel_rfl) (Or.inl ⟨by rfl, ?_⟩) ?_
  rotate_left
  · intro w' hSw; (try dsimp only at hSw); go_simp <;> with_reducible rfl
  try simp only [List.setIfInBounds_toArray, List.set_cons_zero, List.set_cons_succ]
  refine AnyU.next (i := 5) (v := ?_) hq hns hHeld rfl rfl (by kernel_rfl) (Or.inl ⟨by rfl, ?_⟩) ?_
  rotate_left
  · intro w' hSw; (try dsimp only at hSw); go_simp <;> with_reducible rfl
  try simp only [List.setIfInBounds_toArray, List.set_cons_zero, List.set_cons_succ]
  refine AnyU.one 0 (by kernel_rfl) rfl (fun K hK => ?_)
  go_simp
  have L10 := bal w10 (.cells #[] 46)
  have OE := OW.empty w10
  have KK := KK.nx L10
  have Sn := Sn.nx L10
  have OV := OV.below L10 (Nat.le_refl _)
  have n2 := n2.below L10 (Nat.le_refl _)
  have n3 := n3.below L10 (Nat.le_refl _)
  have n4 := n4.below L10 (Nat.le_refl _)
  refine hK.out _ _ (.inr (KK.1.cell 0)) (fun hHeld => ?_)
  have hHeld := hHeld.resolve_left (by decide)
  clear hK K L10
  try simp only [List.setIfInBounds_toArray, List.set_cons_zero, List.set_cons_succ]
  refine AnyU.one 2 (by kernel_rfl) rfl (fun K hK => ?_)
  refine step_appW _ rfl _ _ rfl w10.heap.size _ _ _ [] rfl rfl OE _ _ _ d5 rfl rfl _ OV.rw (by simp; omega) (by simp) ?_; intro A6 c6 w11 O11 B11
  clear hHeld
  have hz10 : w6.heap.size < w10.heap.size := hzw.out
  have KK := KK.kb B11 (by omega)
  have Sn := Sn.below B11 (by omega)
  have n2 := n2.kb B11 (fun g' hA => by have := b2 g' hA; omega)
  have n3 := n3.kb B11 (fun g' hA => by have := b3 g' hA; omega)
  have n4 := n4.kb B11 (fun g' hA => by have := b4 g' hA; omega)
  refine hK.out _ _ (.inr (KK.1.cell 0)) (fun hHeld => ?_)
  have hHeld := hHeld.resolve_left (by decide)
  clear hK K OV OE
  try simp only [List.setIfInBounds_toArray, List.set_cons_zero, List.set_cons_succ]
  rw [List.nil_append] at O11 ⊢
  refine AnyU.next (i := 6) (v := ?_) hq hns hHeld rfl rfl (by kernel_rfl) (Or.inl ⟨by rfl, ?_⟩) ?_
  rotate_left
  · intro w' hSw; (try dsimp only at hSw); go_simp <;> with_reducible rfl
  try simp only [List.setIfInBounds_toArray, List.set_cons_zero, List.set_cons_succ]
  refine AnyU.next (i := 7) (v := ?_) hq hns hHeld rfl rfl (by kernel_rfl) (Or.inl ⟨by rfl, ?_⟩) ?_
  rotate_left
  · intro w' hSw; (try dsimp only at hSw); go_simp <;> with_reducible rfl
  try simp only [List.setIfInBounds_toArray, List.set_cons_zero, List.set_cons_succ]
  refine AnyU.next (i := 8) (v := ?_) hq hns hHeld rfl rfl (by kernel_rfl) (Or.inl ⟨by rfl, ?_⟩) ?_
  rotate_left
  · intro w' hSw; (try dsimp only at hSw); go_simp <;> with_reducible rfl
  try simp only [List.setIfInBounds_toArray, List.set_cons_zero, List.set_cons_succ]
  refine AnyU.next (i := 9) (v := ?_) hq hns hHeld rfl rfl (by kernel_rfl) (Or.inl ⟨by rfl, ?_⟩) ?_
  rotate_left
  · intro w' hSw; (try dsimp only at hSw); go_simp <;> with_reducible rfl
  try simp only [List.setIfInBounds_toArray, List.set_cons_zero, List.set_cons_succ]
  refine AnyU.next (i := 10) (v := ?_) hq hns hHeld rfl rfl (by kernel_rfl) (Or.inl ⟨by rfl, ?_⟩) ?_
  rotate_left
  · intro w' hSw; (try dsimp only at hSw); go_simp <;> with_reducible rfl
  try simp only [List.setIfInBounds_toArray, List.set_cons_zero, List.set_cons_succ]
  refine AnyU.next (i := 11) (v := ?_) hq hns hHeld rfl rfl (by kernel_rfl) (Or.inl ⟨by rfl, ?_⟩) ?_
  rotate_left
  · intro w' hSw; (try dsimp only at hSw); go_simp <;> with_reducible rfl
  try simp only [List.setIfInBounds_toArray, List.set_cons_zero, List.set_cons_succ]
  refine AnyU.next (i := 12) (v := ?_) hq hns hHeld rfl rfl (by kernel_rfl) (Or.inl ⟨by rfl, ?_⟩) ?_
  rotate_left
  · intro w' hSw; (try dsimp only at hSw); go_simp <;> with_reducible rfl
  try simp only [List.setIfInBounds_toArray, List.set_cons_zero, List.set_cons_succ]
  have bo := O11.bet
  have f1 := Sn.frozen 1
  have i1 := Sn.cell 1
  refine AnyU.one 13 (by kernel_rfl) rfl (fun K hK => ?_)
  go_simp
  have KK := KK.farS (g := w6.heap.size) (by omega) 1 (.slice A6 d5.length c6)
  have Sn := Sn.set 1 (.slice A6 d5.length c6)
  have n2 := n2.far (p := ⟨w6.heap.size, 1, none⟩) (fun g' hA => by have := b2 g' hA; show g' ≠ w6.heap.size; omega) (.slice A6 d5.length c6)
  have n3 := n3.far (p := ⟨w6.heap.size, 1, none⟩) (fun g' hA => by have := b3 g' hA; show g' ≠ w6.heap.size; omega) (.slice A6 d5.length c6)
  have n4 := n4.far (p := ⟨w6.heap.size, 1, none⟩) (fun g' hA => by have := b4 g' hA; show g' ≠ w6.heap.size; omega) (.slice A6 d5.length c6)
  have O11 := O11.far (p := ⟨w6.heap.size, 1, none⟩) (fun g' hA => by have := bo g' hA; show g' ≠ w6.heap.size; omega) (.slice A6 d5.length c6)
  refine hK.out _ _ (.inr (KK.1.cell 0)) (fun hHeld => ?_)
  have hHeld := hHeld.resolve_left (by decide)
  clear hK K f1 i1
  try simp only [List.setIfInBounds_toArray, List.set_cons_zero, List.set_cons_succ]
  refine AnyU.one 14 (by kernel_rfl) rfl (fun K hK => ?_)
  go_simp
  refine hK.out _ _ (.inr (KK.1.cell 0)) (fun hHeld => ?_)
  have hHeld := hHeld.resolve_left (by decide)
  clear hK K
  try simp only [List.setIfInBounds_toArray, List.set_cons_zero, List.set_cons_succ]
  refine AnyU.one 15 (by kernel_rfl) rfl (fun K hK => ?_)
  go_simp
  refine hK.out _ _ (.inr (KK.1.cell 0)) (fun hHeld => ?_)
  have hHeld := hHeld.resolve_left (by decide)
  clear hK K
  try simp only [List.setIfInBounds_toArray, List.set_cons_zero, List.set_cons_succ]
  have f1 := Sn.frozen 0
  have i1 := Sn.cell 0
  refine AnyU.one 16 (by kernel_rfl) rfl (fun K hK => ?_)
  go_simp
  have KK := KK.farS (g := w6.heap.size) (by omega) 0 (.bool true)
  have Sn := Sn.set 0 (.bool true)
  have n2 := n2.far (p := ⟨w6.heap.size, 0, none⟩) (fun g' hA => by have := b2 g' hA; show g' ≠ w6.heap.size; omega) (.bool true)
  have n3 := n3.far (p := ⟨w6.heap.size, 0, none⟩) (fun g' hA => by have := b3 g' hA; show g' ≠ w6.heap.size; omega) (.bool true)
  have n4 := n4.far (p := ⟨w6.heap.size, 0, none⟩) (fun g' hA => by have := b4 g' hA; show g' ≠ w6.heap.size; omega) (.bool true)
  have O11 := O11.far (p := ⟨w6.heap.size, 0, none⟩) (fun g' hA => by have := bo g' hA; show g' ≠ w6.heap.size; omega) (.bool true)
  refine hK.out _ _ (.inl rfl) (fun _ => ?_)
  clear hK K f1 i1
  try simp only [List.setIfInBounds_toArray, List.set_cons_zero, List.set_cons_succ]
  refine AnyU.done (by kernel_rfl) (hQK.out _ _ ?_)
  clear hQK hq hns
  obtain ⟨W12, hW12⟩ : ∃ W12, (w11.setCell ⟨w6.heap.size, 1, none⟩ (.slice A6 d5.length c6)).setCell ⟨w6.heap.size, 0, none⟩ (.bool true) = W12 := ⟨_, rfl⟩
  rw [hW12] at KK Sn O11 n2 n3 n4
  skip
  have hRC := KK.2.1
  have BB := KK.2.2
  have j0 := Sn.cell 0
  have j1 := Sn.cell 1
  have j2 := Sn.cell 2
  have j3 := Sn.cell 3
  have j4 := Sn.cell 4
  have j5 := Sn.cell 5
  rw [hW12]
  clear hW12
  go_wp2_with (refine wp_st6 rfl (.tmp 4) (.tmp 45) rfl _ rfl _ _ _ _ _ _ rfl hRC rfl rfl rfl rfl rfl rfl ?_)
  clear j0 j1 j2 j3 j4 j5
  have s6 := hRC.put6 (.bool true) (.slice A6 d5.length c6) (.slice F1 1 f1) (.bool false) (.slice E2 0 e2) (.slice F2 1 f2)
  have B6 := wr6_below (b := w.heap.size + 1) BB (by omega) (.bool true) (.slice A6 d5.length c6) (.slice F1 1 f1) (.bool false) (.slice E2 0 e2) (.slice F2 1 f2)
  have O11 := O11.far6 (b := w.heap.size + 1) (fun g' hA => by have := bo g' hA; omega) (.bool true) (.slice A6 d5.length c6) (.slice F1 1 f1) (.bool false) (.slice E2 0 e2) (.slice F2 1 f2)
  have n2 := n2.far6 (b := w.heap.size + 1) (fun g' hA => by have := b2 g' hA; omega) (.bool true) (.slice A6 d5.length c6) (.slice F1 1 f1) (.bool false) (.slice E2 0 e2) (.slice F2 1 f2)
  have n3 := n3.far6 (b := w.heap.size + 1) (fun g' hA => by have := b3 g' hA; omega) (.bool true) (.slice A6 d5.length c6) (.slice F1 1 f1) (.bool false) (.slice E2 0 e2) (.slice F2 1 f2)
  have n4 := n4.far6 (b := w.heap.size + 1) (fun g' hA => by have := b4 g' hA; omega) (.bool true) (.slice A6 d5.length c6) (.slice F1 1 f1) (.bool false) (.slice E2 0 e2) (.slice F2 1 f2)
  have r0' := s6.cell 0
  have r1' := s6.cell 1
  have r2' := s6.cell 2
  have r3' := s6.cell 3
  have r4' := s6.cell 4
  have r5' := s6.cell 5
  refine bodyPost_ret (v := .tuple #[.agg #[.bool true, .slice A6 d5.length c6, .slice F1 1 f1, .bool false, .slice E2 0 e2, .slice F2 1 f2], .int .i64 0]) (by simp [results, r0', r1', r2', r3', r4', r5', go_sem]) rfl ?_
  rw [hd5.out]
  have hz56 : w5.heap.size ≤ w6.heap.size := B7.size
  exact ⟨A6, c6, F1, f1, E2, e2, F2, f2, rfl, O11.base_le (by omega), n2.base_le (by omega), n3.base_le (by omega), n4.base_le (by omega), B6⟩

/-- down of a whole number: over a power of 2, down to a whole number -/
theorem bdown_any (X : Int) (n : Nat) (hn : n ≤ 20000) (s1 s2 : Bool) (a1 b1 : List Nat) (A1 D1 A2 D2 : Option Addr) (c1 d1 c2 d2 n2 m2 : Nat) (w : World) (h : (⟨s1, a1, b1⟩ : Rw) = rwq ((X : Int) : Rat)) (hl : a1.length ≤ 20000) (p1 : RW w w.heap.size A1 c1 a1) :
    Calls Try.prog 43 #[.agg #[.bool s1, .slice A1 a1.length c1, .slice D1 b1.length d1, .bool s2, .slice A2 n2 c2, .slice D2 m2 d2], .int .i64 (n : Int)] w (RetNE w (rwq (((X / ((2 ^ n : Nat) : Int) : Int)) : Rat), rwq 0, 0)) := by
  have e1 : s1 = decide (X < 0) := congrArg Rw.s h
  have e2 : a1 = digs X.natAbs := congrArg Rw.a h
  by_cases hX : X < 0
  · obtain ⟨v, rfl⟩ : ∃ v : Nat, X = sgn true v := ⟨X.natAbs, by rw [sgn_true]; omega⟩
    rw [decide_eq_true hX] at e1
    have hv : v ≠ 0 := fun e => by rw [e, sgn_true] at hX; omega
    rw [show (sgn true v).natAbs = v by rw [sgn_true]; omega] at e2
    subst e1 e2
    rw [down_neg v n hv]
    by_cases he : v / 2 ^ n * 2 ^ n = v
    · rw [if_pos he, fit_in (fun h => by rw [h, Nat.zero_mul] at he; exact absurd he.symm hv)]
      exact bdown_exact v n hn s2 b1 A1 D1 A2 D2 c1 d1 c2 d2 n2 m2 w hv he hl p1
    · rw [if_neg he, fit_in (fun h => absurd h (Nat.succ_ne_zero _))]
      exact bdown_more v n hn s2 b1 A1 D1 A2 D2 c1 d1 c2 d2 n2 m2 w he hl p1
  · obtain ⟨v, rfl⟩ : ∃ v : Nat, X = sgn false v := ⟨X.natAbs, by rw [sgn_false]; omega⟩
    rw [decide_eq_false hX] at e1
    rw [show (sgn false v).natAbs = v by rw [sgn_false]; omega] at e2
    subst e1 e2
    rw [down_pos v n, fit_in (fun _ => rfl)]
    exact bdown_pos v n hn s2 b1 A1 D1 A2 D2 c1 d1 c2 d2 n2 m2 w hl p1

end Go.Proofs.Ytnlgoedklmjhlaa
namespace Go.Proofs.Ytnlgoedklmjhlaa
open Go.RowKit

theorem field_word {x y s : Nat} (hx : x < 4294967296) (hy : y < 4294967296) (hs : s < 32) :
    bits BinOp.or IntKind.u32 (x : Int) (bits BinOp.and IntKind.u32 ((y : Int) / 2 ^ s) 1 * 2 ^ s % 4294967296) = ((x ||| ((if y.testBit s then 1 else 0) * 2 ^ s) : Nat) : Int) := by
  have e1 : ((y : Int) / 2 ^ s) = ((y / 2 ^ s : Nat) : Int) := by push_cast; rfl
  have e2 := u32_and_nat (y / 2 ^ s) 1 (Nat.lt_of_le_of_lt (Nat.div_le_self _ _) hy) (by omega)
  have e3 := bit_one y s
  rw [Nat.shiftRight_eq_div_pow] at e3
  have h3 : 2 ^ s < 2 ^ 32 := Nat.pow_lt_pow_right (by omega) hs
  rw [e3] at e2
  rw [e1, show (1 : Int) = ((1 : Nat) : Int) from rfl, e2]
  have e4 : (((if y.testBit s = true then 1 else 0 : Nat) : Int) * 2 ^ s % 4294967296) = (((if y.testBit s then 1 else 0) * 2 ^ s : Nat) : Int) := by
    rw [show ((2 : Int) ^ s) = ((2 ^ s : Nat) : Int) by push_cast; rfl, ← Int.natCast_mul]
    have : (if y.testBit s = true then 1 else 0) * 2 ^ s < 4294967296 := by split <;> omega
    omega
  rw [e4]
  exact u32_or_nat _ _ hx (by have : (if y.testBit s = true then 1 else 0) * 2 ^ s < 4294967296 := by split <;> omega
                              exact this)


set_option maxRecDepth 100000 in
set_option maxHeartbeats 16000000 in
theorem bfield_bad (s1 s2 : Bool) (a1 b1 a2 b2 : List Nat) (A1 D1 A2 D2 : Option Addr) (c1 d1 c2 d2 : Nat) (w : World) (p1 : RW w w.heap.size A1 c1 a1) (p2 : RW w w.heap.size D1 d1 b1) (p3 : RW w w.heap.size A2 c2 a2) (p4 : RW w w.heap.size D2 d2 b2) (u e : Int) (k : Int) (hk : bchkN1 ⟨s1, a1, b1⟩ ⟨s2, a2, b2⟩ = k) (hk0 : (k == 0) = false) :
    Calls Try.prog 16 #[.agg #[.bool s1, .slice A1 a1.length c1, .slice D1 b1.length d1, .bool s2, .slice A2 a2.length c2, .slice D2 b2.length d2], .int .i64 u, .int .i64 e] w (RetNE w (rw0, rw0, k)) := by
  have kk0 := S2.new w [.bool s1, .slice A1 a1.length c1, .slice D1 b1.length d1, .bool s2, .slice A2 a2.length c2, .slice D2 b2.length d2] [.bool false, .slice none 0 0, .slice none 0 0, .bool false, .slice none 0 0, .slice none 0 0] 26 26 6
  have LB4 := bal ((w.alloc (.cells #[.bool s1, .slice A1 a1.length c1, .slice D1 b1.length d1, .bool s2, .slice A2 a2.length c2, .slice D2 b2.length d2] 26)).alloc (.cells #[.bool false, .slice none 0 0, .slice none 0 0, .bool false, .slice none 0 0, .slice none 0 0] 26)) (.cells #[.bool s1, .slice A1 a1.length c1, .slice D1 b1.length d1, .bool s2, .slice A2 a2.length c2, .slice D2 b2.length d2] 26)
  have kk1 := kk0.nx LB4
  have SG := SB.new ((w.alloc (.cells #[.bool s1, .slice A1 a1.length c1, .slice D1 b1.length d1, .bool s2, .slice A2 a2.length c2, .slice D2 b2.length d2] 26)).alloc (.cells #[.bool false, .slice none 0 0, .slice none 0 0, .bool false, .slice none 0 0, .slice none 0 0] 26)) [.bool s1, .slice A1 a1.length c1, .slice D1 b1.length d1, .bool s2, .slice A2 a2.length c2, .slice D2 b2.length d2] 26
  have z3 : ((w.alloc (.cells #[.bool s1, .slice A1 a1.length c1, .slice D1 b1.length d1, .bool s2, .slice A2 a2.length c2, .slice D2 b2.length d2] 26)).alloc (.cells #[.bool false, .slice none 0 0, .slice none 0 0, .bool false, .slice none 0 0, .slice none 0 0] 26)).heap.size = w.heap.size + 2 := by simp
  rw [z3] at SG
  have hC := fun w' hg h1 h2 h3 h4 => bcheck1_any (w.heap.size + 2) s1 a1 b1 s2 a2 b2 A1 c1 D1 d1 A2 c2 D2 d2 w' hg h1 h2 h3 h4
  have BW := kk1.2.2
  obtain ⟨W, hW⟩ : ∃ W, W = ((w.alloc (.cells #[.bool s1, .slice A1 a1.length c1, .slice D1 b1.length d1, .bool s2, .slice A2 a2.length c2, .slice D2 b2.length d2] 26)).alloc (.cells #[.bool false, .slice none 0 0, .slice none 0 0, .bool false, .slice none 0 0, .slice none 0 0] 26)).alloc (.cells #[.bool s1, .slice A1 a1.length c1, .slice D1 b1.length d1, .bool s2, .slice A2 a2.length c2, .slice D2 b2.length d2] 26) := ⟨_, rfl⟩
  have i0 := kk0.1.cell 0
  have i1 := kk0.1.cell 1
  have i2 := kk0.1.cell 2
  have i3 := kk0.1.cell 3
  have i4 := kk0.1.cell 4
  have i5 := kk0.1.cell 5
  simp only [hk] at hC
  have Hk := Lib.hid hk
  clear hk
  have n0 : (k != 0) = true := by simp [bne, hk0]
  go_enter Try.func16, Try.ntmps16
  go_wp2_with fail
  rw [← hW] at kk1 SG BW ⊢
  clear hW kk0 i0 i1 i2 i3 i4 i5
  refine (hC W SG (st p1 BW) (st p2 BW) (st p3 BW) (st p4 BW)).mono ?_; rintro e w5 ⟨rfl, B5⟩
  clear hC
  have kk5 := kk1.nx B5
  have hRC := kk5.2.1
  have BB := kk5.2.2
  go_wp2_with (refine wp_st6 rfl (.tmp 6) (.tmp 19) rfl _ rfl _ _ _ _ _ _ rfl hRC rfl rfl rfl rfl rfl rfl ?_)
  have s6 := hRC.put6 (.bool false) (.slice none 0 0) (.slice none 0 0) (.bool false) (.slice none 0 0) (.slice none 0 0)
  have B6 := wr6_below (b := w.heap.size + 1) BB (by omega) (.bool false) (.slice none 0 0) (.slice none 0 0) (.bool false) (.slice none 0 0) (.slice none 0 0)
  have r0' := s6.cell 0
  have r1' := s6.cell 1
  have r2' := s6.cell 2
  have r3' := s6.cell 3
  have r4' := s6.cell 4
  have r5' := s6.cell 5
  refine bodyPost_ret (v := .tuple #[.agg #[.bool false, .slice none 0 0, .slice none 0 0, .bool false, .slice none 0 0, .slice none 0 0], .int .i64 k]) (by simp [results, r0', r1', r2', r3', r4', r5', go_sem]) rfl ?_
  exact retNE_nil k B6


set_option maxRecDepth 100000 in
set_option maxHeartbeats 16000000 in
theorem bfield_neg (s1 s2 : Bool) (a1 b1 a2 b2 : List Nat) (A1 D1 A2 D2 : Option Addr) (c1 d1 c2 d2 : Nat) (w : World) (p1 : RW w w.heap.size A1 c1 a1) (p2 : RW w w.heap.size D1 d1 b1) (p3 : RW w w.heap.size A2 c2 a2) (p4 : RW w w.heap.size D2 d2 b2) (u e : Int) (h : u < 0) (hk : bchkN1 ⟨s1, a1, b1⟩ ⟨s2, a2, b2⟩ = 0) :
    Calls Try.prog 16 #[.agg #[.bool s1, .slice A1 a1.length c1, .slice D1 b1.length d1, .bool s2, .slice A2 a2.length c2, .slice D2 b2.length d2], .int .i64 u, .int .i64 e] w (RetNE w (rw0, rw0, 1)) := by
  have kk0 := S2.new w [.bool s1, .slice A1 a1.length c1, .slice D1 b1.length d1, .bool s2, .slice A2 a2.length c2, .slice D2 b2.length d2] [.bool false, .slice none 0 0, .slice none 0 0, .bool false, .slice none 0 0, .slice none 0 0] 26 26 6
  have LB4 := bal ((w.alloc (.cells #[.bool s1, .slice A1 a1.length c1, .slice D1 b1.length d1, .bool s2, .slice A2 a2.length c2, .slice D2 b2.length d2] 26)).alloc (.cells #[.bool false, .slice none 0 0, .slice none 0 0, .bool false, .slice none 0 0, .slice none 0 0] 26)) (.cells #[.bool s1, .slice A1 a1.length c1, .slice D1 b1.length d1, .bool s2, .slice A2 a2.length c2, .slice D2 b2.length d2] 26)
  have kk1 := kk0.nx LB4
  have SG := SB.new ((w.alloc (.cells #[.bool s1, .slice A1 a1.length c1, .slice D1 b1.length d1, .bool s2, .slice A2 a2.length c2, .slice D2 b2.length d2] 26)).alloc (.cells #[.bool false, .slice none 0 0, .slice none 0 0, .bool false, .slice none 0 0, .slice none 0 0] 26)) [.bool s1, .slice A1 a1.length c1, .slice D1 b1.length d1, .bool s2, .slice A2 a2.length c2, .slice D2 b2.length d2] 26
  have z3 : ((w.alloc (.cells #[.bool s1, .slice A1 a1.length c1, .slice D1 b1.length d1, .bool s2, .slice A2 a2.length c2, .slice D2 b2.length d2] 26)).alloc (.cells #[.bool false, .slice none 0 0, .slice none 0 0, .bool false, .slice none 0 0, .slice none 0 0] 26)).heap.size = w.heap.size + 2 := by simp
  rw [z3] at SG
  have hC := fun w' hg h1 h2 h3 h4 => bcheck1_any (w.heap.size + 2) s1 a1 b1 s2 a2 b2 A1 c1 D1 d1 A2 c2 D2 d2 w' hg h1 h2 h3 h4
  have BW := kk1.2.2
  obtain ⟨W, hW⟩ : ∃ W, W = ((w.alloc (.cells #[.bool s1, .slice A1 a1.length c1, .slice D1 b1.length d1, .bool s2, .slice A2 a2.length c2, .slice D2 b2.length d2] 26)).alloc (.cells #[.bool false, .slice none 0 0, .slice none 0 0, .bool false, .slice none 0 0, .slice none 0 0] 26)).alloc (.cells #[.bool s1, .slice A1 a1.length c1, .slice D1 b1.length d1, .bool s2, .slice A2 a2.length c2, .slice D2 b2.length d2] 26) := ⟨_, rfl⟩
  have i0 := kk0.1.cell 0
  have i1 := kk0.1.cell 1
  have i2 := kk0.1.cell 2
  have i3 := kk0.1.cell 3
  have i4 := kk0.1.cell 4
  have i5 := kk0.1.cell 5
  simp only [hk] at hC
  clear hk
  have t1 : u < 0 := h
  clear h
  go_enter Try.func16, Try.ntmps16
  go_wp2_with fail
  rw [← hW] at kk1 SG BW ⊢
  clear hW kk0 i0 i1 i2 i3 i4 i5
  refine (hC W SG (st p1 BW) (st p2 BW) (st p3 BW) (st p4 BW)).mono ?_; rintro e w5 ⟨rfl, B5⟩
  clear hC
  have kk5 := kk1.nx B5
  have hRC := kk5.2.1
  have BB := kk5.2.2
  go_wp2_with (refine wp_st6 rfl (.tmp 6) (.tmp 32) rfl _ rfl _ _ _ _ _ _ rfl hRC rfl rfl rfl rfl rfl rfl ?_)
  have s6 := hRC.put6 (.bool false) (.slice none 0 0) (.slice none 0 0) (.bool false) (.slice none 0 0) (.slice none 0 0)
  have B6 := wr6_below (b := w.heap.size + 1) BB (by omega) (.bool false) (.slice none 0 0) (.slice none 0 0) (.bool false) (.slice none 0 0) (.slice none 0 0)
  have r0' := s6.cell 0
  have r1' := s6.cell 1
  have r2' := s6.cell 2
  have r3' := s6.cell 3
  have r4' := s6.cell 4
  have r5' := s6.cell 5
  refine bodyPost_ret (v := .tuple #[.agg #[.bool false, .slice none 0 0, .slice none 0 0, .bool false, .slice none 0 0, .slice none 0 0], .int .i64 1]) (by simp [results, r0', r1', r2', r3', r4', r5', go_sem]) rfl ?_
  exact retNE_nil 1 B6


set_option maxRecDepth 100000 in
set_option maxHeartbeats 16000000 in
theorem bfield_back (s1 s2 : Bool) (a1 b1 a2 b2 : List Nat) (A1 D1 A2 D2 : Option Addr) (c1 d1 c2 d2 : Nat) (w : World) (p1 : RW w w.heap.size A1 c1 a1) (p2 : RW w w.heap.size D1 d1 b1) (p3 : RW w w.heap.size A2 c2 a2) (p4 : RW w w.heap.size D2 d2 b2) (u e : Int) (h : ¬ u < 0 ∧ e < u) (hk : bchkN1 ⟨s1, a1, b1⟩ ⟨s2, a2, b2⟩ = 0) :
    Calls Try.prog 16 #[.agg #[.bool s1, .slice A1 a1.length c1, .slice D1 b1.length d1, .bool s2, .slice A2 a2.length c2, .slice D2 b2.length d2], .int .i64 u, .int .i64 e] w (RetNE w (rw0, rw0, 1)) := by
  have kk0 := S2.new w [.bool s1, .slice A1 a1.length c1, .slice D1 b1.length d1, .bool s2, .slice A2 a2.length c2, .slice D2 b2.length d2] [.bool false, .slice none 0 0, .slice none 0 0, .bool false, .slice none 0 0, .slice none 0 0] 26 26 6
  have LB4 := bal ((w.alloc (.cells #[.bool s1, .slice A1 a1.length c1, .slice D1 b1.length d1, .bool s2, .slice A2 a2.length c2, .slice D2 b2.length d2] 26)).alloc (.cells #[.bool false, .slice none 0 0, .slice none 0 0, .bool false, .slice none 0 0, .slice none 0 0] 26)) (.cells #[.bool s1, .slice A1 a1.length c1, .slice D1 b1.length d1, .bool s2, .slice A2 a2.length c2, .slice D2 b2.length d2] 26)
  have kk1 := kk0.nx LB4
  have SG := SB.new ((w.alloc (.cells #[.bool s1, .slice A1 a1.length c1, .slice D1 b1.length d1, .bool s2, .slice A2 a2.length c2, .slice D2 b2.length d2] 26)).alloc (.cells #[.bool false, .slice none 0 0, .slice none 0 0, .bool false, .slice none 0 0, .slice none 0 0] 26)) [.bool s1, .slice A1 a1.length c1, .slice D1 b1.length d1, .bool s2, .slice A2 a2.length c2, .slice D2 b2.length d2] 26
  have z3 : ((w.alloc (.cells #[.bool s1, .slice A1 a1.length c1, .slice D1 b1.length d1, .bool s2, .slice A2 a2.length c2, .slice D2 b2.length d2] 26)).alloc (.cells #[.bool false, .slice none 0 0, .slice none 0 0, .bool false, .slice none 0 0, .slice none 0 0] 26)).heap.size = w.heap.size + 2 := by simp
  rw [z3] at SG
  have hC := fun w' hg h1 h2 h3 h4 => bcheck1_any (w.heap.size + 2) s1 a1 b1 s2 a2 b2 A1 c1 D1 d1 A2 c2 D2 d2 w' hg h1 h2 h3 h4
  have BW := kk1.2.2
  obtain ⟨W, hW⟩ : ∃ W, W = ((w.alloc (.cells #[.bool s1, .slice A1 a1.length c1, .slice D1 b1.length d1, .bool s2, .slice A2 a2.length c2, .slice D2 b2.length d2] 26)).alloc (.cells #[.bool false, .slice none 0 0, .slice none 0 0, .bool false, .slice none 0 0, .slice none 0 0] 26)).alloc (.cells #[.bool s1, .slice A1 a1.length c1, .slice D1 b1.length d1, .bool s2, .slice A2 a2.length c2, .slice D2 b2.length d2] 26) := ⟨_, rfl⟩
  have i0 := kk0.1.cell 0
  have i1 := kk0.1.cell 1
  have i2 := kk0.1.cell 2
  have i3 := kk0.1.cell 3
  have i4 := kk0.1.cell 4
  have i5 := kk0.1.cell 5
  simp only [hk] at hC
  clear hk
  have t1 : ¬ u < 0 := h.1
  have t2 : e < u := h.2
  clear h
  go_enter Try.func16, Try.ntmps16
  go_wp2_with fail
  rw [← hW] at kk1 SG BW ⊢
  clear hW kk0 i0 i1 i2 i3 i4 i5
  refine (hC W SG (st p1 BW) (st p2 BW) (st p3 BW) (st p4 BW)).mono ?_; rintro e w5 ⟨rfl, B5⟩
  clear hC
  have kk5 := kk1.nx B5
  have hRC := kk5.2.1
  have BB := kk5.2.2
  go_wp2_with (refine wp_st6 rfl (.tmp 6) (.tmp 32) rfl _ rfl _ _ _ _ _ _ rfl hRC rfl rfl rfl rfl rfl rfl ?_)
  have s6 := hRC.put6 (.bool false) (.slice none 0 0) (.slice none 0 0) (.bool false) (.slice none 0 0) (.slice none 0 0)
  have B6 := wr6_below (b := w.heap.size + 1) BB (by omega) (.bool false) (.slice none 0 0) (.slice none 0 0) (.bool false) (.slice none 0 0) (.slice none 0 0)
  have r0' := s6.cell 0
  have r1' := s6.cell 1
  have r2' := s6.cell 2
  have r3' := s6.cell 3
  have r4' := s6.cell 4
  have r5' := s6.cell 5
  refine bodyPost_ret (v := .tuple #[.agg #[.bool false, .slice none 0 0, .slice none 0 0, .bool false, .slice none 0 0, .slice none 0 0], .int .i64 1]) (by simp [results, r0', r1', r2', r3', r4', r5', go_sem]) rfl ?_
  exact retNE_nil 1 B6


set_option maxRecDepth 100000 in
set_option maxHeartbeats 16000000 in
theorem bfield_far (s1 s2 : Bool) (a1 b1 a2 b2 : List Nat) (A1 D1 A2 D2 : Option Addr) (c1 d1 c2 d2 : Nat) (w : World) (p1 : RW w w.heap.size A1 c1 a1) (p2 : RW w w.heap.size D1 d1 b1) (p3 : RW w w.heap.size A2 c2 a2) (p4 : RW w w.heap.size D2 d2 b2) (u e : Int) (h : ¬ u < 0 ∧ ¬ e < u ∧ 16384 < e) (hk : bchkN1 ⟨s1, a1, b1⟩ ⟨s2, a2, b2⟩ = 0) :
    Calls Try.prog 16 #[.agg #[.bool s1, .slice A1 a1.length c1, .slice D1 b1.length d1, .bool s2, .slice A2 a2.length c2, .slice D2 b2.length d2], .int .i64 u, .int .i64 e] w (RetNE w (rw0, rw0, 1)) := by
  have kk0 := S2.new w [.bool s1, .slice A1 a1.length c1, .slice D1 b1.length d1, .bool s2, .slice A2 a2.length c2, .slice D2 b2.length d2] [.bool false, .slice none 0 0, .slice none 0 0, .bool false, .slice none 0 0, .slice none 0 0] 26 26 6
  have LB4 := bal ((w.alloc (.cells #[.bool s1, .slice A1 a1.length c1, .slice D1 b1.length d1, .bool s2, .slice A2 a2.length c2, .slice D2 b2.length d2] 26)).alloc (.cells #[.bool false, .slice none 0 0, .slice none 0 0, .bool false, .slice none 0 0, .slice none 0 0] 26)) (.cells #[.bool s1, .slice A1 a1.length c1, .slice D1 b1.length d1, .bool s2, .slice A2 a2.length c2, .slice D2 b2.length d2] 26)
  have kk1 := kk0.nx LB4
  have SG := SB.new ((w.alloc (.cells #[.bool s1, .slice A1 a1.length c1, .slice D1 b1.length d1, .bool s2, .slice A2 a2.length c2, .slice D2 b2.length d2] 26)).alloc (.cells #[.bool false, .slice none 0 0, .slice none 0 0, .bool false, .slice none 0 0, .slice none 0 0] 26)) [.bool s1, .slice A1 a1.length c1, .slice D1 b1.length d1, .bool s2, .slice A2 a2.length c2, .slice D2 b2.length d2] 26
  have z3 : ((w.alloc (.cells #[.bool s1, .slice A1 a1.length c1, .slice D1 b1.length d1, .bool s2, .slice A2 a2.length c2, .slice D2 b2.length d2] 26)).alloc (.cells #[.bool false, .slice none 0 0, .slice none 0 0, .bool false, .slice none 0 0, .slice none 0 0] 26)).heap.size = w.heap.size + 2 := by simp
  rw [z3] at SG
  have hC := fun w' hg h1 h2 h3 h4 => bcheck1_any (w.heap.size + 2) s1 a1 b1 s2 a2 b2 A1 c1 D1 d1 A2 c2 D2 d2 w' hg h1 h2 h3 h4
  have BW := kk1.2.2
  obtain ⟨W, hW⟩ : ∃ W, W = ((w.alloc (.cells #[.bool s1, .slice A1 a1.length c1, .slice D1 b1.length d1, .bool s2, .slice A2 a2.length c2, .slice D2 b2.length d2] 26)).alloc (.cells #[.bool false, .slice none 0 0, .slice none 0 0, .bool false, .slice none 0 0, .slice none 0 0] 26)).alloc (.cells #[.bool s1, .slice A1 a1.length c1, .slice D1 b1.length d1, .bool s2, .slice A2 a2.length c2, .slice D2 b2.length d2] 26) := ⟨_, rfl⟩
  have i0 := kk0.1.cell 0
  have i1 := kk0.1.cell 1
  have i2 := kk0.1.cell 2
  have i3 := kk0.1.cell 3
  have i4 := kk0.1.cell 4
  have i5 := kk0.1.cell 5
  simp only [hk] at hC
  clear hk
  have t1 : ¬ u < 0 := h.1
  have t2 : ¬ e < u := h.2.1
  have t3 : 16384 < e := h.2.2
  clear h
  go_enter Try.func16, Try.ntmps16
  go_wp2_with fail
  rw [← hW] at kk1 SG BW ⊢
  clear hW kk0 i0 i1 i2 i3 i4 i5
  refine (hC W SG (st p1 BW) (st p2 BW) (st p3 BW) (st p4 BW)).mono ?_; rintro e w5 ⟨rfl, B5⟩
  clear hC
  have kk5 := kk1.nx B5
  have hRC := kk5.2.1
  have BB := kk5.2.2
  go_wp2_with (refine wp_st6 rfl (.tmp 6) (.tmp 32) rfl _ rfl _ _ _ _ _ _ rfl hRC rfl rfl rfl rfl rfl rfl ?_)
  have s6 := hRC.put6 (.bool false) (.slice none 0 0) (.slice none 0 0) (.bool false) (.slice none 0 0) (.slice none 0 0)
  have B6 := wr6_below (b := w.heap.size + 1) BB (by omega) (.bool false) (.slice none 0 0) (.slice none 0 0) (.bool false) (.slice none 0 0) (.slice none 0 0)
  have r0' := s6.cell 0
  have r1' := s6.cell 1
  have r2' := s6.cell 2
  have r3' := s6.cell 3
  have r4' := s6.cell 4
  have r5' := s6.cell 5
  refine bodyPost_ret (v := .tuple #[.agg #[.bool false, .slice none 0 0, .slice none 0 0, .bool false, .slice none 0 0, .slice none 0 0], .int .i64 1]) (by simp [results, r0', r1', r2', r3', r4', r5', go_sem]) rfl ?_
  exact retNE_nil 1 B6


set_option maxRecDepth 100000 in
set_option maxHeartbeats 16000000 in
theorem bfield_ok (s1 s2 : Bool) (a1 b1 a2 b2 : List Nat) (A1 D1 A2 D2 : Option Addr) (c1 d1 c2 d2 : Nat) (w : World) (p1 : RW w w.heap.size A1 c1 a1) (p2 : RW w w.heap.size D1 d1 b1) (p3 : RW w w.heap.size A2 c2 a2) (p4 : RW w w.heap.size D2 d2 b2) (X : Int) (u e : Nat) (hue : u ≤ e) (he : e ≤ 16384) (hX : Hid ((⟨s1, a1, b1⟩ : Rw) = rwq ((X : Int) : Rat))) (lx : a1.length ≤ 512) (hk : bchkN1 ⟨s1, a1, b1⟩ ⟨s2, a2, b2⟩ = 0) :
    Calls Try.prog 16 #[.agg #[.bool s1, .slice A1 a1.length c1, .slice D1 b1.length d1, .bool s2, .slice A2 a2.length c2, .slice D2 b2.length d2], .int .i64 (u : Int), .int .i64 (e : Int)] w (RetNE w (fitQ ((fieldN X u (e - u) : Int) : Rat) 0)) := by
  have kk0 := S2.new w [.bool s1, .slice A1 a1.length c1, .slice D1 b1.length d1, .bool s2, .slice A2 a2.length c2, .slice D2 b2.length d2] [.bool false, .slice none 0 0, .slice none 0 0, .bool false, .slice none 0 0, .slice none 0 0] 26 26 6
  have LB4 := bal ((w.alloc (.cells #[.bool s1, .slice A1 a1.length c1, .slice D1 b1.length d1, .bool s2, .slice A2 a2.length c2, .slice D2 b2.length d2] 26)).alloc (.cells #[.bool false, .slice none 0 0, .slice none 0 0, .bool false, .slice none 0 0, .slice none 0 0] 26)) (.cells #[.bool s1, .slice A1 a1.length c1, .slice D1 b1.length d1, .bool s2, .slice A2 a2.length c2, .slice D2 b2.length d2] 26)
  have kk1 := kk0.nx LB4
  have SG := SB.new ((w.alloc (.cells #[.bool s1, .slice A1 a1.length c1, .slice D1 b1.length d1, .bool s2, .slice A2 a2.length c2, .slice D2 b2.length d2] 26)).alloc (.cells #[.bool false, .slice none 0 0, .slice none 0 0, .bool false, .slice none 0 0, .slice none 0 0] 26)) [.bool s1, .slice A1 a1.length c1, .slice D1 b1.length d1, .bool s2, .slice A2 a2.length c2, .slice D2 b2.length d2] 26
  have z3 : ((w.alloc (.cells #[.bool s1, .slice A1 a1.length c1, .slice D1 b1.length d1, .bool s2, .slice A2 a2.length c2, .slice D2 b2.length d2] 26)).alloc (.cells #[.bool false, .slice none 0 0, .slice none 0 0, .bool false, .slice none 0 0, .slice none 0 0] 26)).heap.size = w.heap.size + 2 := by simp
  rw [z3] at SG
  have hC := fun w' hg h1 h2 h3 h4 => bcheck1_any (w.heap.size + 2) s1 a1 b1 s2 a2 b2 A1 c1 D1 d1 A2 c2 D2 d2 w' hg h1 h2 h3 h4
  have BW := kk1.2.2
  obtain ⟨W, hW⟩ : ∃ W, W = ((w.alloc (.cells #[.bool s1, .slice A1 a1.length c1, .slice D1 b1.length d1, .bool s2, .slice A2 a2.length c2, .slice D2 b2.length d2] 26)).alloc (.cells #[.bool false, .slice none 0 0, .slice none 0 0, .bool false, .slice none 0 0, .slice none 0 0] 26)).alloc (.cells #[.bool s1, .slice A1 a1.length c1, .slice D1 b1.length d1, .bool s2, .slice A2 a2.length c2, .slice D2 b2.length d2] 26) := ⟨_, rfl⟩
  have i0 := kk0.1.cell 0
  have i1 := kk0.1.cell 1
  have i2 := kk0.1.cell 2
  have i3 := kk0.1.cell 3
  have i4 := kk0.1.cell 4
  have i5 := kk0.1.cell 5
  simp only [hk] at hC
  clear hk
  have hD := fun w' h => bdown_any X u (by omega) s1 s2 a1 b1 A1 D1 A2 D2 c1 d1 c2 d2 a2.length b2.length w' hX.out (by omega) h
  obtain ⟨Y, hY⟩ : ∃ Y : Int, Hid (X / ((2 ^ u : Nat) : Int) = Y) := ⟨_, rfl⟩
  rw [hY.out] at hD
  have hYl : (digs Y.natAbs).length ≤ 512 := by
    have h1 : Y.natAbs ≤ X.natAbs := by rw [← hY.out]; exact Int.natAbs_ediv_le_natAbs _ _
    have h2 := digs_mono h1
    have h3 : a1 = digs X.natAbs := congrArg Rw.a hX.out
    rw [← h3] at h2
    omega
  obtain ⟨n, hn⟩ : ∃ n, Hid (e - u = n) := ⟨_, rfl⟩
  have hn1 : n ≤ 16384 := by have := hn.out; omega
  have hsub : (e : Int) - (u : Int) = (n : Int) := by have := hn.out; omega
  have t1 : ¬ (u : Int) < 0 := by omega
  have t2 : ¬ (e : Int) < (u : Int) := by omega
  have t3 : ¬ (16384 : Int) < (e : Int) := by omega
  rw [hn.out]
  obtain ⟨q, hq⟩ : ∃ q, Hid (rwq ((Y : Int) : Rat) = q) := ⟨_, rfl⟩
  obtain ⟨z, hz⟩ : ∃ z, Hid (rwq 0 = z) := ⟨_, rfl⟩
  rw [hq.out, hz.out] at hD
  have hql : q.a.length ≤ 512 := by rw [← hq.out]; exact hYl
  obtain ⟨M, hM⟩ : ∃ M : Nat, Hid (max q.a.length (n / 32) = M) := ⟨_, rfl⟩
  have m1 : q.a.length ≤ M := by have := hM.out; omega
  have m2 : n / 32 ≤ M := by have := hM.out; omega
  have m3 : M ≤ 512 := by have := hM.out; omega
  have hmx : max (q.a.length : Int) ((n : Int) / 32) = (M : Int) := by have := hM.out; omega
  have hRX : ∀ V w', VN w' w'.heap.size V q z → Calls Try.prog 44 #[V, .int .i64 ((M : Int) + 2)] w' fun e w'' => ∃ g, e = .returned (.slice (some ⟨g, 0, none⟩) (M + 2) (M + 2)) ∧ OW w'' w'.heap.size (some ⟨g, 0, none⟩) (M + 2) (rowI (M + 2) Y) ∧ Below w'.heap.size w' w'' := fun V w' hv => by
    rw [← hq.out, ← hz.out] at hv
    exact row_any V Y (M + 2) w' hv (by have h1 := m1; rw [← hq.out] at h1; exact Nat.le_trans h1 (by omega)) (by omega) (by omega)
  go_enter Try.func16, Try.ntmps16
  go_wp2_with fail
  rw [← hW] at kk1 SG BW ⊢
  clear hW kk0 i0 i1 i2 i3 i4 i5
  refine (hC W SG (st p1 BW) (st p2 BW) (st p3 BW) (st p4 BW)).mono ?_; rintro e w5 ⟨rfl, B5⟩
  clear hC
  have kk5 := kk1.nx B5
  have i0 := kk5.1.cell 0
  have i1 := kk5.1.cell 1
  have i2 := kk5.1.cell 2
  have i3 := kk5.1.cell 3
  have i4 := kk5.1.cell 4
  have i5 := kk5.1.cell 5
  have BB := kk5.2.2
  go_wp2_with fail
  refine (hD w5 (st p1 BB)).mono ?_; rintro e6 w6 ⟨H1, h1, I1, i1_, H2, h2, I2, i2_, rfl, O1, O2, O3, O4, B6⟩
  dsimp only at O1 O2 O3 O4
  clear hD i0 i1 i2 i3 i4 i5
  have L7 := bal w6 (.cells #[.bool q.s, .slice H1 q.a.length h1, .slice I1 q.b.length i1_, .bool z.s, .slice H2 z.a.length h2, .slice I2 z.b.length i2_] 26)
  have Sx := SB.new w6 [.bool q.s, .slice H1 q.a.length h1, .slice I1 q.b.length i1_, .bool z.s, .slice H2 z.a.length h2, .slice I2 z.b.length i2_] 26
  have HX : VN (w6.alloc (.cells #[.bool q.s, .slice H1 q.a.length h1, .slice I1 q.b.length i1_, .bool z.s, .slice H2 z.a.length h2, .slice I2 z.b.length i2_] 26)) (w6.alloc (.cells #[.bool q.s, .slice H1 q.a.length h1, .slice I1 q.b.length i1_, .bool z.s, .slice H2 z.a.length h2, .slice I2 z.b.length i2_] 26)).heap.size (.agg #[.bool q.s, .slice H1 q.a.length h1, .slice I1 q.b.length i1_, .bool z.s, .slice H2 z.a.length h2, .slice I2 z.b.length i2_]) q z := ⟨H1, h1, I1, i1_, H2, h2, I2, i2_, rfl, st O1.rw L7, st O2.rw L7, st O3.rw L7, st O4.rw L7⟩
  have kk7 := (kk5.nx B6).nx L7
  obtain ⟨w7, hw7⟩ : ∃ w7, w7 = w6.alloc (.cells #[.bool q.s, .slice H1 q.a.length h1, .slice I1 q.b.length i1_, .bool z.s, .slice H2 z.a.length h2, .slice I2 z.b.length i2_] 26) := ⟨_, rfl⟩
  go_upto_region 7 with fail
  rw [← hw7] at Sx HX kk7 ⊢
  clear hw7 L7 O1 O2 O3 O4 B6 kk5
  have i0 := Sx.cell 0
  have i1 := Sx.cell 1
  have i2 := Sx.cell 2
  have i3 := Sx.cell 3
  have i4 := Sx.cell 4
  have i5 := Sx.cell 5
  go_wp2_with fail
  refine (hRX _ w7 HX).mono ?_; rintro e8 w8 ⟨g1, rfl, P1, B8⟩
  clear hRX i0 i1 i2 i3 i4 i5 hmx Sx
  have kk8 := kk7.nx B8
  have hw78 : w.heap.size + 1 < w7.heap.size := kk7.2.1.2
  have P1 := P1.base_le (B := w.heap.size + 2) (by omega)
  go_upto_region 9 with (at_make; refine wp_makeW _ rfl _ _ rfl .i64 .i64 _ _ (n / 32 + 2) rfl rfl (by omega) (by omega) (by omega) ?_; intro wm hOm hbm hsm)
  have hgm : g1 < w8.heap.size := P1.lt.2
  have P1 := P1.below hbm (Nat.le_refl _)
  have kk9 := kk8.nx hbm
  have hw8 : w.heap.size + 1 < w8.heap.size := kk8.2.1.2
  have P2 := hOm.base_le (B := w.heap.size + 2) (by omega)
  generalize hg2 : w8.heap.size = g2 at *
  clear hg2
  have hne : g1 ≠ g2 := by omega
  have RR := kk9.2.1
  have BB9 := kk9.2.2
  clear kk7 kk8 kk9 B8 hbm hOm hsm BB B5
  go_wp2_with fail
  go_loopg [60] n (fun gg iv wr => ∃ (k : Nat) (o : List Nat), k ≤ n ∧ n - k = gg ∧ iv = .int .i64 (k : Int) ∧ OW wr (w.heap.size + 2) (some ⟨g1, 0, none⟩) (M + 2) (rowI (M + 2) Y) ∧ OW wr (w.heap.size + 2) (some ⟨g2, 0, none⟩) (n / 32 + 2) o ∧
    Hid (o.length = n / 32 + 2 ∧ (∀ j, (val o).testBit j = (decide (j < k) && ib X (u + j)))) ∧ RC wr (w.heap.size + 1) 6 ∧ Below w.heap.size w wr)
  case atStart => exact ⟨0, _, Nat.zero_le _, rfl, rfl, P1, P2, Lib.hid ⟨by simp, fun j => bits_start _ j (fun j => ib X (u + j))⟩, RR, BB9⟩
  case round =>
    obtain ⟨k, o, hk, rfl, rfl, Q1, Q2, hI, RR2, BB2⟩ := hrel
    by_cases hk0 : k < n
    · obtain ⟨hol, hbits⟩ := hI.out
      have hk32 : k / 32 < o.length := by rw [hol]; omega
      have cx := Q2.cell (k := k / 32) hk32
      have fx := Q2.frozen (k / 32)
      have cy := Q1.cell (k := k / 32) (by rw [rowI_len]; omega)
      have hbY : (wd (rowI (M + 2) Y) (k / 32)).testBit (k % 32) = ib X (u + k) := by
        rw [rowI_bit, ← hY.out, ib_down, decide_eq_true (by omega), Bool.true_and]
      have hs32 : k % 32 < 32 := Nat.mod_lt _ (by omega)
      have hxl := wd_lt Q2.b32 (k / 32)
      have hyl := wd_lt Q1.b32 (k / 32)
      have hw1 : IntKind.i64.wrap ((k : Int) / 32) = (k : Int) / 32 := IntWalk.i64_in _ (by omega)
      have hw2 : IntKind.i64.wrap ((k : Int) % 32) = (k : Int) % 32 := IntWalk.i64_in _ (by omega)
      have hw3 : (0 : Int) ≤ (k : Int) / 32 := by omega
      have hw4 : (k : Int) / 32 < (n : Int) / 32 + 2 := by omega
      have hw5 : (k : Int) / 32 < (M : Int) + 2 := by omega
      have hw6 : ((k : Int) / 32).toNat = k / 32 := by omega
      have hw9 : (k : Int).tmod 32 = (k : Int) % 32 := Int.tmod_eq_emod_of_nonneg (by omega)
      have hw7 : (0 : Int) ≤ (k : Int) % 32 := by omega
      have hw8 : (k : Int) % 32 < 32 := by omega
      have hfw := field_word (x := wd o (k / 32)) (y := wd (rowI (M + 2) Y) (k / 32)) (s := k % 32) hxl hyl hs32
      rw [hbY] at hfw
      have hlt := or_bitk_lt hxl (ib X (u + k)) hs32
      have hset := Q2.set (k / 32) hlt
      have hst := bits_step (f := fun j => ib X (u + j)) Q2.b32 hk32 hbits
      have HI : Hid ((o.set (k / 32) (wd o (k / 32) ||| ((if ib X (u + k) then 1 else 0) * 2 ^ (k % 32)))).length = n / 32 + 2 ∧ (∀ j, (val (o.set (k / 32) (wd o (k / 32) ||| ((if ib X (u + k) then 1 else 0) * 2 ^ (k % 32))))).testBit j = (decide (j < k + 1) && ib X (u + j)))) := ⟨by rw [List.length_set]; exact hol, hst⟩
      have Q1' := Q1.far (p := ⟨g2, k / 32, none⟩) (fun g' hA => by cases hA; show g1 ≠ g2; omega) (.int .u32 ((wd o (k / 32) ||| ((if ib X (u + k) then 1 else 0) * 2 ^ (k % 32)) : Nat) : Int))
      have hg2 := Q2.lt.1
      have RR2' := (RR2.sb.far (p := ⟨g2, k / 32, none⟩) (by show w.heap.size + 1 ≠ g2; omega) (.int .u32 ((wd o (k / 32) ||| ((if ib X (u + k) then 1 else 0) * 2 ^ (k % 32)) : Nat) : Int))).rc (n := 6)
      have BB2' := BB2.setCell (p := ⟨g2, k / 32, none⟩) (by show w.heap.size ≤ g2; omega) (.int .u32 ((wd o (k / 32) ||| ((if ib X (u + k) then 1 else 0) * 2 ^ (k % 32)) : Nat) : Int))
      rw [← hfw] at hset Q1' RR2' BB2'
      clear hol hbits hst hfw hlt hbY
      go_wp2_with fail
      refine wp_region_still_tail 19 (by kernel_rfl) (by kernel_rfl) ?_
      simp only [List.take_succ_cons, List.take_zero, List.drop_succ_cons, List.drop_zero]
      repeat still_step
      try refine wpStill_nil ?_
      go_wp2_with fail
      go_roundg (n - (k + 1))
      case measure => omega
      case rel => exact ⟨k + 1, _, by omega, rfl, by go_num, Q1', hset, HI, RR2', bdN BB2' 1⟩
    · obtain rfl : k = n := by omega
      obtain ⟨hol, hbits⟩ := hI.out
      have hv := bits_end hbits
      have hN := bnum_any g2 (k / 32 + 2) o wr (w.heap.size + 2) Q2 (by omega) (by omega) (by have := RR2.2; omega)
      have hval : Hid (tcI (32 * o.length) (val o) = ((fieldN X u k : Nat) : Int)) := by
        show _ = _
        rw [hv, hol]
        unfold tcI
        rw [if_pos]
        exact Nat.lt_of_lt_of_le (fieldN_lt X u k) (Nat.pow_le_pow_right (by omega) (by omega))
      rw [hval.out, hol] at hN
      clear hol hI hval hk0 hv hbits
      obtain ⟨R, hR⟩ : ∃ R, Hid (fitQ ((fieldN X u k : Int) : Rat) 0 = R) := ⟨_, rfl⟩
      rw [hR.out] at hN
      obtain ⟨fr, fi, fk⟩ := R
      go_wp2_with fail
      refine hN.mono ?_; rintro e9 w9 ⟨H1, h1, I1, i1, H2, h2, I2, i2, rfl, O1, O2, O3, O4, B5⟩
      dsimp only at O1 O2 O3 O4
      have hRC := (RR2.sb.below B5 (by omega)).rc (n := 6)
      have BB5 := BB2.trans (B5.mono (by omega))
      go_wp2_with (refine wp_st6 rfl (.tmp 6) (.tmp 85) rfl _ rfl _ _ _ _ _ _ rfl hRC rfl rfl rfl rfl rfl rfl ?_)
      have s6 := hRC.put6 (.bool fr.s) (.slice H1 fr.a.length h1) (.slice I1 fr.b.length i1) (.bool fi.s) (.slice H2 fi.a.length h2) (.slice I2 fi.b.length i2)
      have B6 := wr6_below (b := w.heap.size + 1) BB5 (by omega) (.bool fr.s) (.slice H1 fr.a.length h1) (.slice I1 fr.b.length i1) (.bool fi.s) (.slice H2 fi.a.length h2) (.slice I2 fi.b.length i2)
      have Oa := O1.put6 (b := w.heap.size + 1) (by omega) (.bool fr.s) (.slice H1 fr.a.length h1) (.slice I1 fr.b.length i1) (.bool fi.s) (.slice H2 fi.a.length h2) (.slice I2 fi.b.length i2)
      have Ob := O2.put6 (b := w.heap.size + 1) (by omega) (.bool fr.s) (.slice H1 fr.a.length h1) (.slice I1 fr.b.length i1) (.bool fi.s) (.slice H2 fi.a.length h2) (.slice I2 fi.b.length i2)
      have Oc := O3.put6 (b := w.heap.size + 1) (by omega) (.bool fr.s) (.slice H1 fr.a.length h1) (.slice I1 fr.b.length i1) (.bool fi.s) (.slice H2 fi.a.length h2) (.slice I2 fi.b.length i2)
      have Od := O4.put6 (b := w.heap.size + 1) (by omega) (.bool fr.s) (.slice H1 fr.a.length h1) (.slice I1 fr.b.length i1) (.bool fi.s) (.slice H2 fi.a.length h2) (.slice I2 fi.b.length i2)
      have r0' := s6.cell 0
      have r1' := s6.cell 1
      have r2' := s6.cell 2
      have r3' := s6.cell 3
      have r4' := s6.cell 4
      have r5' := s6.cell 5
      refine bodyPost_ret (v := .tuple #[.agg #[.bool fr.s, .slice H1 fr.a.length h1, .slice I1 fr.b.length i1, .bool fi.s, .slice H2 fi.a.length h2, .slice I2 fi.b.length i2], .int .i64 fk]) (by simp [results, r0', r1', r2', r3', r4', r5', go_sem]) rfl ?_
      rw [hR.out]
      exact ⟨H1, h1, I1, i1, H2, h2, I2, i2, rfl, Oa.base_le (by omega), Ob.base_le (by omega), Oc.base_le (by omega), Od.base_le (by omega), B6⟩

end Go.Proofs.Ytnlgoedklmjhlaa
namespace Go.Proofs.Ytnlgoedklmjhlaa
open Go.RowKit

theorem bitN_bit (v k : Nat) : bitN v k = if v.testBit k then 1 else 0 := by
  unfold bitN
  rw [Nat.testBit_eq_decide_div_mod_eq]
  by_cases h : v / 2 ^ k % 2 = 1
  · simp [h]
  · have : v / 2 ^ k % 2 = 0 := by omega
    simp [this]
theorem field_wordr {x s : Nat} (hx : x < 4294967296) (b : Bool) (hs : s < 32) :
    bits BinOp.or IntKind.u32 (x : Int) (((if b then 1 else 0 : Nat) : Int) * 2 ^ s % 4294967296) = ((x ||| ((if b then 1 else 0) * 2 ^ s) : Nat) : Int) := by
  have h3 : 2 ^ s < 2 ^ 32 := Nat.pow_lt_pow_right (by omega) hs
  have h4 : (if b = true then 1 else 0) * 2 ^ s < 4294967296 := by split <;> omega
  have e4 : (((if b = true then 1 else 0 : Nat) : Int) * 2 ^ s % 4294967296) = (((if b then 1 else 0) * 2 ^ s : Nat) : Int) := by
    rw [show ((2 : Int) ^ s) = ((2 ^ s : Nat) : Int) by push_cast; rfl, ← Int.natCast_mul]
    omega
  rw [e4]
  exact u32_or_nat _ _ hx h4


set_option maxRecDepth 100000 in
set_option maxHeartbeats 16000000 in
theorem rbfield_bad (s1 s2 : Bool) (a1 b1 a2 b2 : List Nat) (A1 D1 A2 D2 : Option Addr) (c1 d1 c2 d2 : Nat) (w : World) (p1 : RW w w.heap.size A1 c1 a1) (p2 : RW w w.heap.size D1 d1 b1) (p3 : RW w w.heap.size A2 c2 a2) (p4 : RW w w.heap.size D2 d2 b2) (u e : Int) (k : Int) (hk : bchkN1 ⟨s1, a1, b1⟩ ⟨s2, a2, b2⟩ = k) (hk0 : (k == 0) = false) :
    Calls Try.prog 17 #[.agg #[.bool s1, .slice A1 a1.length c1, .slice D1 b1.length d1, .bool s2, .slice A2 a2.length c2, .slice D2 b2.length d2], .int .i64 u, .int .i64 e] w (RetNE w (rw0, rw0, k)) := by
  have kk0 := S2.new w [.bool s1, .slice A1 a1.length c1, .slice D1 b1.length d1, .bool s2, .slice A2 a2.length c2, .slice D2 b2.length d2] [.bool false, .slice none 0 0, .slice none 0 0, .bool false, .slice none 0 0, .slice none 0 0] 26 26 6
  have LB4 := bal ((w.alloc (.cells #[.bool s1, .slice A1 a1.length c1, .slice D1 b1.length d1, .bool s2, .slice A2 a2.length c2, .slice D2 b2.length d2] 26)).alloc (.cells #[.bool false, .slice none 0 0, .slice none 0 0, .bool false, .slice none 0 0, .slice none 0 0] 26)) (.cells #[.bool s1, .slice A1 a1.length c1, .slice D1 b1.length d1, .bool s2, .slice A2 a2.length c2, .slice D2 b2.length d2] 26)
  have kk1 := kk0.nx LB4
  have SG := SB.new ((w.alloc (.cells #[.bool s1, .slice A1 a1.length c1, .slice D1 b1.length d1, .bool s2, .slice A2 a2.length c2, .slice D2 b2.length d2] 26)).alloc (.cells #[.bool false, .slice none 0 0, .slice none 0 0, .bool false, .slice none 0 0, .slice none 0 0] 26)) [.bool s1, .slice A1 a1.length c1, .slice D1 b1.length d1, .bool s2, .slice A2 a2.length c2, .slice D2 b2.length d2] 26
  have z3 : ((w.alloc (.cells #[.bool s1, .slice A1 a1.length c1, .slice D1 b1.length d1, .bool s2, .slice A2 a2.length c2, .slice D2 b2.length d2] 26)).alloc (.cells #[.bool false, .slice none 0 0, .slice none 0 0, .bool false, .slice none 0 0, .slice none 0 0] 26)).heap.size = w.heap.size + 2 := by simp
  rw [z3] at SG
  have hC := fun w' hg h1 h2 h3 h4 => rbcheck1_any (w.heap.size + 2) s1 a1 b1 s2 a2 b2 A1 c1 D1 d1 A2 c2 D2 d2 w' hg h1 h2 h3 h4
  have BW := kk1.2.2
  obtain ⟨W, hW⟩ : ∃ W, W = ((w.alloc (.cells #[.bool s1, .slice A1 a1.length c1, .slice D1 b1.length d1, .bool s2, .slice A2 a2.length c2, .slice D2 b2.length d2] 26)).alloc (.cells #[.bool false, .slice none 0 0, .slice none 0 0, .bool false, .slice none 0 0, .slice none 0 0] 26)).alloc (.cells #[.bool s1, .slice A1 a1.length c1, .slice D1 b1.length d1, .bool s2, .slice A2 a2.length c2, .slice D2 b2.length d2] 26) := ⟨_, rfl⟩
  have i0 := kk0.1.cell 0
  have i1 := kk0.1.cell 1
  have i2 := kk0.1.cell 2
  have i3 := kk0.1.cell 3
  have i4 := kk0.1.cell 4
  have i5 := kk0.1.cell 5
  simp only [hk] at hC
  have Hk := Lib.hid hk
  clear hk
  have n0 : (k != 0) = true := by simp [bne, hk0]
  go_enter Try.func17, Try.ntmps17
  go_wp2_with fail
  rw [← hW] at kk1 SG BW ⊢
  clear hW kk0 i0 i1 i2 i3 i4 i5
  refine (hC W SG (st p1 BW) (st p2 BW) (st p3 BW) (st p4 BW)).mono ?_; rintro e w5 ⟨rfl, B5⟩
  clear hC
  have kk5 := kk1.nx B5
  have hRC := kk5.2.1
  have BB := kk5.2.2
  go_wp2_with (refine wp_st6 rfl (.tmp 6) (.tmp 17) rfl _ rfl _ _ _ _ _ _ rfl hRC rfl rfl rfl rfl rfl rfl ?_)
  have s6 := hRC.put6 (.bool false) (.slice none 0 0) (.slice none 0 0) (.bool false) (.slice none 0 0) (.slice none 0 0)
  have B6 := wr6_below (b := w.heap.size + 1) BB (by omega) (.bool false) (.slice none 0 0) (.slice none 0 0) (.bool false) (.slice none 0 0) (.slice none 0 0)
  have r0' := s6.cell 0
  have r1' := s6.cell 1
  have r2' := s6.cell 2
  have r3' := s6.cell 3
  have r4' := s6.cell 4
  have r5' := s6.cell 5
  refine bodyPost_ret (v := .tuple #[.agg #[.bool false, .slice none 0 0, .slice none 0 0, .bool false, .slice none 0 0, .slice none 0 0], .int .i64 k]) (by simp [results, r0', r1', r2', r3', r4', r5', go_sem]) rfl ?_
  exact retNE_nil k B6


set_option maxRecDepth 100000 in
set_option maxHeartbeats 16000000 in
theorem rbfield_neg (s1 s2 : Bool) (a1 b1 a2 b2 : List Nat) (A1 D1 A2 D2 : Option Addr) (c1 d1 c2 d2 : Nat) (w : World) (p1 : RW w w.heap.size A1 c1 a1) (p2 : RW w w.heap.size D1 d1 b1) (p3 : RW w w.heap.size A2 c2 a2) (p4 : RW w w.heap.size D2 d2 b2) (u e : Int) (h : u < 0) (hk : bchkN1 ⟨s1, a1, b1⟩ ⟨s2, a2, b2⟩ = 0) :
    Calls Try.prog 17 #[.agg #[.bool s1, .slice A1 a1.length c1, .slice D1 b1.length d1, .bool s2, .slice A2 a2.length c2, .slice D2 b2.length d2], .int .i64 u, .int .i64 e] w (RetNE w (rw0, rw0, 1)) := by
  have kk0 := S2.new w [.bool s1, .slice A1 a1.length c1, .slice D1 b1.length d1, .bool s2, .slice A2 a2.length c2, .slice D2 b2.length d2] [.bool false, .slice none 0 0, .slice none 0 0, .bool false, .slice none 0 0, .slice none 0 0] 26 26 6
  have LB4 := bal ((w.alloc (.cells #[.bool s1, .slice A1 a1.length c1, .slice D1 b1.length d1, .bool s2, .slice A2 a2.length c2, .slice D2 b2.length d2] 26)).alloc (.cells #[.bool false, .slice none 0 0, .slice none 0 0, .bool false, .slice none 0 0, .slice none 0 0] 26)) (.cells #[.bool s1, .slice A1 a1.length c1, .slice D1 b1.length d1, .bool s2, .slice A2 a2.length c2, .slice D2 b2.length d2] 26)
  have kk1 := kk0.nx LB4
  have SG := SB.new ((w.alloc (.cells #[.bool s1, .slice A1 a1.length c1, .slice D1 b1.length d1, .bool s2, .slice A2 a2.length c2, .slice D2 b2.length d2] 26)).alloc (.cells #[.bool false, .slice none 0 0, .slice none 0 0, .bool false, .slice none 0 0, .slice none 0 0] 26)) [.bool s1, .slice A1 a1.length c1, .slice D1 b1.length d1, .bool s2, .slice A2 a2.length c2, .slice D2 b2.length d2] 26
  have z3 : ((w.alloc (.cells #[.bool s1, .slice A1 a1.length c1, .slice D1 b1.length d1, .bool s2, .slice A2 a2.length c2, .slice D2 b2.length d2] 26)).alloc (.cells #[.bool false, .slice none 0 0, .slice none 0 0, .bool false, .slice none 0 0, .slice none 0 0] 26)).heap.size = w.heap.size + 2 := by simp
  rw [z3] at SG
  have hC := fun w' hg h1 h2 h3 h4 => rbcheck1_any (w.heap.size + 2) s1 a1 b1 s2 a2 b2 A1 c1 D1 d1 A2 c2 D2 d2 w' hg h1 h2 h3 h4
  have BW := kk1.2.2
  obtain ⟨W, hW⟩ : ∃ W, W = ((w.alloc (.cells #[.bool s1, .slice A1 a1.length c1, .slice D1 b1.length d1, .bool s2, .slice A2 a2.length c2, .slice D2 b2.length d2] 26)).alloc (.cells #[.bool false, .slice none 0 0, .slice none 0 0, .bool false, .slice none 0 0, .slice none 0 0] 26)).alloc (.cells #[.bool s1, .slice A1 a1.length c1, .slice D1 b1.length d1, .bool s2, .slice A2 a2.length c2, .slice D2 b2.length d2] 26) := ⟨_, rfl⟩
  have i0 := kk0.1.cell 0
  have i1 := kk0.1.cell 1
  have i2 := kk0.1.cell 2
  have i3 := kk0.1.cell 3
  have i4 := kk0.1.cell 4
  have i5 := kk0.1.cell 5
  simp only [hk] at hC
  clear hk
  have t1 : u < 0 := h
  clear h
  go_enter Try.func17, Try.ntmps17
  go_wp2_with fail
  rw [← hW] at kk1 SG BW ⊢
  clear hW kk0 i0 i1 i2 i3 i4 i5
  refine (hC W SG (st p1 BW) (st p2 BW) (st p3 BW) (st p4 BW)).mono ?_; rintro e w5 ⟨rfl, B5⟩
  clear hC
  have kk5 := kk1.nx B5
  have hRC := kk5.2.1
  have BB := kk5.2.2
  go_wp2_with (refine wp_st6 rfl (.tmp 6) (.tmp 30) rfl _ rfl _ _ _ _ _ _ rfl hRC rfl rfl rfl rfl rfl rfl ?_)
  have s6 := hRC.put6 (.bool false) (.slice none 0 0) (.slice none 0 0) (.bool false) (.slice none 0 0) (.slice none 0 0)
  have B6 := wr6_below (b := w.heap.size + 1) BB (by omega) (.bool false) (.slice none 0 0) (.slice none 0 0) (.bool false) (.slice none 0 0) (.slice none 0 0)
  have r0' := s6.cell 0
  have r1' := s6.cell 1
  have r2' := s6.cell 2
  have r3' := s6.cell 3
  have r4' := s6.cell 4
  have r5' := s6.cell 5
  refine bodyPost_ret (v := .tuple #[.agg #[.bool false, .slice none 0 0, .slice none 0 0, .bool false, .slice none 0 0, .slice none 0 0], .int .i64 1]) (by simp [results, r0', r1', r2', r3', r4', r5', go_sem]) rfl ?_
  exact retNE_nil 1 B6


set_option maxRecDepth 100000 in
set_option maxHeartbeats 16000000 in
theorem rbfield_back (s1 s2 : Bool) (a1 b1 a2 b2 : List Nat) (A1 D1 A2 D2 : Option Addr) (c1 d1 c2 d2 : Nat) (w : World) (p1 : RW w w.heap.size A1 c1 a1) (p2 : RW w w.heap.size D1 d1 b1) (p3 : RW w w.heap.size A2 c2 a2) (p4 : RW w w.heap.size D2 d2 b2) (u e : Int) (h : ¬ u < 0 ∧ e < u) (hk : bchkN1 ⟨s1, a1, b1⟩ ⟨s2, a2, b2⟩ = 0) :
    Calls Try.prog 17 #[.agg #[.bool s1, .slice A1 a1.length c1, .slice D1 b1.length d1, .bool s2, .slice A2 a2.length c2, .slice D2 b2.length d2], .int .i64 u, .int .i64 e] w (RetNE w (rw0, rw0, 1)) := by
  have kk0 := S2.new w [.bool s1, .slice A1 a1.length c1, .slice D1 b1.length d1, .bool s2, .slice A2 a2.length c2, .slice D2 b2.length d2] [.bool false, .slice none 0 0, .slice none 0 0, .bool false, .slice none 0 0, .slice none 0 0] 26 26 6
  have LB4 := bal ((w.alloc (.cells #[.bool s1, .slice A1 a1.length c1, .slice D1 b1.length d1, .bool s2, .slice A2 a2.length c2, .slice D2 b2.length d2] 26)).alloc (.cells #[.bool false, .slice none 0 0, .slice none 0 0, .bool false, .slice none 0 0, .slice none 0 0] 26)) (.cells #[.bool s1, .slice A1 a1.length c1, .slice D1 b1.length d1, .bool s2, .slice A2 a2.length c2, .slice D2 b2.length d2] 26)
  have kk1 := kk0.nx LB4
  have SG := SB.new ((w.alloc (.cells #[.bool s1, .slice A1 a1.length c1, .slice D1 b1.length d1, .bool s2, .slice A2 a2.length c2, .slice D2 b2.length d2] 26)).alloc (.cells #[.bool false, .slice none 0 0, .slice none 0 0, .bool false, .slice none 0 0, .slice none 0 0] 26)) [.bool s1, .slice A1 a1.length c1, .slice D1 b1.length d1, .bool s2, .slice A2 a2.length c2, .slice D2 b2.length d2] 26
  have z3 : ((w.alloc (.cells #[.bool s1, .slice A1 a1.length c1, .slice D1 b1.length d1, .bool s2, .slice A2 a2.length c2, .slice D2 b2.length d2] 26)).alloc (.cells #[.bool false, .slice none 0 0, .slice none 0 0, .bool false, .slice none 0 0, .slice none 0 0] 26)).heap.size = w.heap.size + 2 := by simp
  rw [z3] at SG
  have hC := fun w' hg h1 h2 h3 h4 => rbcheck1_any (w.heap.size + 2) s1 a1 b1 s2 a2 b2 A1 c1 D1 d1 A2 c2 D2 d2 w' hg h1 h2 h3 h4
  have BW := kk1.2.2
  obtain ⟨W, hW⟩ : ∃ W, W = ((w.alloc (.cells #[.bool s1, .slice A1 a1.length c1, .slice D1 b1.length d1, .bool s2, .slice A2 a2.length c2, .slice D2 b2.length d2] 26)).alloc (.cells #[.bool false, .slice none 0 0, .slice none 0 0, .bool false, .slice none 0 0, .slice none 0 0] 26)).alloc (.cells #[.bool s1, .slice A1 a1.length c1, .slice D1 b1.length d1, .bool s2, .slice A2 a2.length c2, .slice D2 b2.length d2] 26) := ⟨_, rfl⟩
  have i0 := kk0.1.cell 0
  have i1 := kk0.1.cell 1
  have i2 := kk0.1.cell 2
  have i3 := kk0.1.cell 3
  have i4 := kk0.1.cell 4
  have i5 := kk0.1.cell 5
  simp only [hk] at hC
  clear hk
  have t1 : ¬ u < 0 := h.1
  have t2 : e < u := h.2
  clear h
  go_enter Try.func17, Try.ntmps17
  go_wp2_with fail
  rw [← hW] at kk1 SG BW ⊢
  clear hW kk0 i0 i1 i2 i3 i4 i5
  refine (hC W SG (st p1 BW) (st p2 BW) (st p3 BW) (st p4 BW)).mono ?_; rintro e w5 ⟨rfl, B5⟩
  clear hC
  have kk5 := kk1.nx B5
  have hRC := kk5.2.1
  have BB := kk5.2.2
  go_wp2_with (refine wp_st6 rfl (.tmp 6) (.tmp 30) rfl _ rfl _ _ _ _ _ _ rfl hRC rfl rfl rfl rfl rfl rfl ?_)
  have s6 := hRC.put6 (.bool false) (.slice none 0 0) (.slice none 0 0) (.bool false) (.slice none 0 0) (.slice none 0 0)
  have B6 := wr6_below (b := w.heap.size + 1) BB (by omega) (.bool false) (.slice none 0 0) (.slice none 0 0) (.bool false) (.slice none 0 0) (.slice none 0 0)
  have r0' := s6.cell 0
  have r1' := s6.cell 1
  have r2' := s6.cell 2
  have r3' := s6.cell 3
  have r4' := s6.cell 4
  have r5' := s6.cell 5
  refine bodyPost_ret (v := .tuple #[.agg #[.bool false, .slice none 0 0, .slice none 0 0, .bool false, .slice none 0 0, .slice none 0 0], .int .i64 1]) (by simp [results, r0', r1', r2', r3', r4', r5', go_sem]) rfl ?_
  exact retNE_nil 1 B6


set_option maxRecDepth 100000 in
set_option maxHeartbeats 16000000 in
theorem rbfield_far (s1 s2 : Bool) (a1 b1 a2 b2 : List Nat) (A1 D1 A2 D2 : Option Addr) (c1 d1 c2 d2 : Nat) (w : World) (p1 : RW w w.heap.size A1 c1 a1) (p2 : RW w w.heap.size D1 d1 b1) (p3 : RW w w.heap.size A2 c2 a2) (p4 : RW w w.heap.size D2 d2 b2) (u e : Int) (h : ¬ u < 0 ∧ ¬ e < u ∧ 16384 < e) (hk : bchkN1 ⟨s1, a1, b1⟩ ⟨s2, a2, b2⟩ = 0) :
    Calls Try.prog 17 #[.agg #[.bool s1, .slice A1 a1.length c1, .slice D1 b1.length d1, .bool s2, .slice A2 a2.length c2, .slice D2 b2.length d2], .int .i64 u, .int .i64 e] w (RetNE w (rw0, rw0, 1)) := by
  have kk0 := S2.new w [.bool s1, .slice A1 a1.length c1, .slice D1 b1.length d1, .bool s2, .slice A2 a2.length c2, .slice D2 b2.length d2] [.bool false, .slice none 0 0, .slice none 0 0, .bool false, .slice none 0 0, .slice none 0 0] 26 26 6
  have LB4 := bal ((w.alloc (.cells #[.bool s1, .slice A1 a1.length c1, .slice D1 b1.length d1, .bool s2, .slice A2 a2.length c2, .slice D2 b2.length d2] 26)).alloc (.cells #[.bool false, .slice none 0 0, .slice none 0 0, .bool false, .slice none 0 0, .slice none 0 0] 26)) (.cells #[.bool s1, .slice A1 a1.length c1, .slice D1 b1.length d1, .bool s2, .slice A2 a2.length c2, .slice D2 b2.length d2] 26)
  have kk1 := kk0.nx LB4
  have SG := SB.new ((w.alloc (.cells #[.bool s1, .slice A1 a1.length c1, .slice D1 b1.length d1, .bool s2, .slice A2 a2.length c2, .slice D2 b2.length d2] 26)).alloc (.cells #[.bool false, .slice none 0 0, .slice none 0 0, .bool false, .slice none 0 0, .slice none 0 0] 26)) [.bool s1, .slice A1 a1.length c1, .slice D1 b1.length d1, .bool s2, .slice A2 a2.length c2, .slice D2 b2.length d2] 26
  have z3 : ((w.alloc (.cells #[.bool s1, .slice A1 a1.length c1, .slice D1 b1.length d1, .bool s2, .slice A2 a2.length c2, .slice D2 b2.length d2] 26)).alloc (.cells #[.bool false, .slice none 0 0, .slice none 0 0, .bool false, .slice none 0 0, .slice none 0 0] 26)).heap.size = w.heap.size + 2 := by simp
  rw [z3] at SG
  have hC := fun w' hg h1 h2 h3 h4 => rbcheck1_any (w.heap.size + 2) s1 a1 b1 s2 a2 b2 A1 c1 D1 d1 A2 c2 D2 d2 w' hg h1 h2 h3 h4
  have BW := kk1.2.2
  obtain ⟨W, hW⟩ : ∃ W, W = ((w.alloc (.cells #[.bool s1, .slice A1 a1.length c1, .slice D1 b1.length d1, .bool s2, .slice A2 a2.length c2, .slice D2 b2.length d2] 26)).alloc (.cells #[.bool false, .slice none 0 0, .slice none 0 0, .bool false, .slice none 0 0, .slice none 0 0] 26)).alloc (.cells #[.bool s1, .slice A1 a1.length c1, .slice D1 b1.length d1, .bool s2, .slice A2 a2.length c2, .slice D2 b2.length d2] 26) := ⟨_, rfl⟩
  have i0 := kk0.1.cell 0
  have i1 := kk0.1.cell 1
  have i2 := kk0.1.cell 2
  have i3 := kk0.1.cell 3
  have i4 := kk0.1.cell 4
  have i5 := kk0.1.cell 5
  simp only [hk] at hC
  clear hk
  have t1 : ¬ u < 0 := h.1
  have t2 : ¬ e < u := h.2.1
  have t3 : 16384 < e := h.2.2
  clear h
  go_enter Try.func17, Try.ntmps17
  go_wp2_with fail
  rw [← hW] at kk1 SG BW ⊢
  clear hW kk0 i0 i1 i2 i3 i4 i5
  refine (hC W SG (st p1 BW) (st p2 BW) (st p3 BW) (st p4 BW)).mono ?_; rintro e w5 ⟨rfl, B5⟩
  clear hC
  have kk5 := kk1.nx B5
  have hRC := kk5.2.1
  have BB := kk5.2.2
  go_wp2_with (refine wp_st6 rfl (.tmp 6) (.tmp 30) rfl _ rfl _ _ _ _ _ _ rfl hRC rfl rfl rfl rfl rfl rfl ?_)
  have s6 := hRC.put6 (.bool false) (.slice none 0 0) (.slice none 0 0) (.bool false) (.slice none 0 0) (.slice none 0 0)
  have B6 := wr6_below (b := w.heap.size + 1) BB (by omega) (.bool false) (.slice none 0 0) (.slice none 0 0) (.bool false) (.slice none 0 0) (.slice none 0 0)
  have r0' := s6.cell 0
  have r1' := s6.cell 1
  have r2' := s6.cell 2
  have r3' := s6.cell 3
  have r4' := s6.cell 4
  have r5' := s6.cell 5
  refine bodyPost_ret (v := .tuple #[.agg #[.bool false, .slice none 0 0, .slice none 0 0, .bool false, .slice none 0 0, .slice none 0 0], .int .i64 1]) (by simp [results, r0', r1', r2', r3', r4', r5', go_sem]) rfl ?_
  exact retNE_nil 1 B6


set_option maxRecDepth 100000 in
set_option maxHeartbeats 16000000 in
theorem rbfield_ok (s1 s2 : Bool) (a1 b1 a2 b2 : List Nat) (A1 D1 A2 D2 : Option Addr) (c1 d1 c2 d2 : Nat) (w : World) (p1 : RW w w.heap.size A1 c1 a1) (p2 : RW w w.heap.size D1 d1 b1) (p3 : RW w w.heap.size A2 c2 a2) (p4 : RW w w.heap.size D2 d2 b2) (X : Int) (u e : Nat) (hue : u ≤ e) (he : e ≤ 16384) (hX : Hid ((⟨s1, a1, b1⟩ : Rw) = rwq ((X : Int) : Rat))) (lx : a1.length ≤ 512) (hk : bchkN1 ⟨s1, a1, b1⟩ ⟨s2, a2, b2⟩ = 0) :
    Calls Try.prog 17 #[.agg #[.bool s1, .slice A1 a1.length c1, .slice D1 b1.length d1, .bool s2, .slice A2 a2.length c2, .slice D2 b2.length d2], .int .i64 (u : Int), .int .i64 (e : Int)] w (RetNE w (fitQ ((fieldN X u (e - u) : Int) : Rat) 0)) := by
  have kk0 := S2.new w [.bool s1, .slice A1 a1.length c1, .slice D1 b1.length d1, .bool s2, .slice A2 a2.length c2, .slice D2 b2.length d2] [.bool false, .slice none 0 0, .slice none 0 0, .bool false, .slice none 0 0, .slice none 0 0] 26 26 6
  have LB4 := bal ((w.alloc (.cells #[.bool s1, .slice A1 a1.length c1, .slice D1 b1.length d1, .bool s2, .slice A2 a2.length c2, .slice D2 b2.length d2] 26)).alloc (.cells #[.bool false, .slice none 0 0, .slice none 0 0, .bool false, .slice none 0 0, .slice none 0 0] 26)) (.cells #[.bool s1, .slice A1 a1.length c1, .slice D1 b1.length d1, .bool s2, .slice A2 a2.length c2, .slice D2 b2.length d2] 26)
  have kk1 := kk0.nx LB4
  have SG := SB.new ((w.alloc (.cells #[.bool s1, .slice A1 a1.length c1, .slice D1 b1.length d1, .bool s2, .slice A2 a2.length c2, .slice D2 b2.length d2] 26)).alloc (.cells #[.bool false, .slice none 0 0, .slice none 0 0, .bool false, .slice none 0 0, .slice none 0 0] 26)) [.bool s1, .slice A1 a1.length c1, .slice D1 b1.length d1, .bool s2, .slice A2 a2.length c2, .slice D2 b2.length d2] 26
  have z3 : ((w.alloc (.cells #[.bool s1, .slice A1 a1.length c1, .slice D1 b1.length d1, .bool s2, .slice A2 a2.length c2, .slice D2 b2.length d2] 26)).alloc (.cells #[.bool false, .slice none 0 0, .slice none 0 0, .bool false, .slice none 0 0, .slice none 0 0] 26)).heap.size = w.heap.size + 2 := by simp
  rw [z3] at SG
  have hC := fun w' hg h1 h2 h3 h4 => rbcheck1_any (w.heap.size + 2) s1 a1 b1 s2 a2 b2 A1 c1 D1 d1 A2 c2 D2 d2 w' hg h1 h2 h3 h4
  have BW := kk1.2.2
  obtain ⟨W, hW⟩ : ∃ W, W = ((w.alloc (.cells #[.bool s1, .slice A1 a1.length c1, .slice D1 b1.length d1, .bool s2, .slice A2 a2.length c2, .slice D2 b2.length d2] 26)).alloc (.cells #[.bool false, .slice none 0 0, .slice none 0 0, .bool false, .slice none 0 0, .slice none 0 0] 26)).alloc (.cells #[.bool s1, .slice A1 a1.length c1, .slice D1 b1.length d1, .bool s2, .slice A2 a2.length c2, .slice D2 b2.length d2] 26) := ⟨_, rfl⟩
  have i0 := kk0.1.cell 0
  have i1 := kk0.1.cell 1
  have i2 := kk0.1.cell 2
  have i3 := kk0.1.cell 3
  have i4 := kk0.1.cell 4
  have i5 := kk0.1.cell 5
  simp only [hk] at hC
  clear hk
  obtain ⟨n, hn⟩ : ∃ n, Hid (e - u = n) := ⟨_, rfl⟩
  have hn1 : n ≤ 16384 := by have := hn.out; omega
  have hsub : (e : Int) - (u : Int) = (n : Int) := by have := hn.out; omega
  have t1 : ¬ (u : Int) < 0 := by omega
  have t2 : ¬ (e : Int) < (u : Int) := by omega
  have t3 : ¬ (16384 : Int) < (e : Int) := by omega
  rw [hn.out]
  obtain ⟨M, hM⟩ : ∃ M : Nat, Hid (e / 32 + a1.length = M) := ⟨_, rfl⟩
  have m1 : a1.length ≤ M := by have := hM.out; omega
  have m2 : e / 32 ≤ M := by have := hM.out; omega
  have m3 : M ≤ 1024 := by have := hM.out; omega
  have hmx : (e : Int) / 32 + (a1.length : Int) = (M : Int) := by have := hM.out; omega
  have hRX : ∀ w', RW w' w'.heap.size A1 c1 a1 → RW w' w'.heap.size D1 d1 b1 → Calls Try.prog 35 #[.agg #[.bool s1, .slice A1 a1.length c1, .slice D1 b1.length d1, .bool s2, .slice A2 a2.length c2, .slice D2 b2.length d2], .int .i64 ((M : Int) + 2)] w' fun e w'' => ∃ g, e = .returned (.slice (some ⟨g, 0, none⟩) (M + 2) (M + 2)) ∧ OW w'' w'.heap.size (some ⟨g, 0, none⟩) (M + 2) (rowI (M + 2) X) ∧ Below w'.heap.size w' w'' := fun w' h1 h2 =>
    rbrow_any X s1 s2 a1 b1 A1 D1 A2 D2 c1 d1 c2 d2 a2.length b2.length (M + 2) w' hX.out (by omega) (by omega) (by omega) h1 h2
  have hue2 : e = u + n := by have := hn.out; omega
  have HUE := Lib.hid hue2
  clear hue2
  go_enter Try.func17, Try.ntmps17
  go_wp2_with fail
  rw [← hW] at kk1 SG BW ⊢
  clear hW kk0 i0 i1 i2 i3 i4 i5
  refine (hC W SG (st p1 BW) (st p2 BW) (st p3 BW) (st p4 BW)).mono ?_; rintro e w5 ⟨rfl, B5⟩
  clear hC
  have kk5 := kk1.nx B5
  have i0 := kk5.1.cell 0
  have i1 := kk5.1.cell 1
  have i2 := kk5.1.cell 2
  have i3 := kk5.1.cell 3
  have i4 := kk5.1.cell 4
  have i5 := kk5.1.cell 5
  have BB := kk5.2.2
  go_wp2_with fail
  refine (hRX w5 (st p1 BB) (st p2 BB)).mono ?_; rintro e8 w8 ⟨g1, rfl, P1, B8⟩
  clear hRX i0 i1 i2 i3 i4 i5 hmx
  have kk8 := kk5.nx B8
  have hw78 : w.heap.size + 1 < w5.heap.size := kk5.2.1.2
  have P1 := P1.base_le (B := w.heap.size + 2) (by omega)
  go_upto_region 8 with (at_make; refine wp_makeW _ rfl _ _ rfl .i64 .i64 _ _ (n / 32 + 2) rfl rfl (by omega) (by omega) (by omega) ?_; intro wm hOm hbm hsm)
  have hgm : g1 < w8.heap.size := P1.lt.2
  have P1 := P1.below hbm (Nat.le_refl _)
  have kk9 := kk8.nx hbm
  have hw8 : w.heap.size + 1 < w8.heap.size := kk8.2.1.2
  have P2 := hOm.base_le (B := w.heap.size + 2) (by omega)
  generalize hg2 : w8.heap.size = g2 at *
  clear hg2
  have hne : g1 ≠ g2 := by omega
  have RR := kk9.2.1
  have BB9 := kk9.2.2
  clear kk8 kk9 B8 hbm hOm hsm BB B5 kk5
  go_wp2_with fail
  go_loopg [11] n (fun gg iv wr => ∃ (k : Nat) (o : List Nat), k ≤ n ∧ n - k = gg ∧ iv = .int .i64 (k : Int) ∧ OW wr (w.heap.size + 2) (some ⟨g1, 0, none⟩) (M + 2) (rowI (M + 2) X) ∧ OW wr (w.heap.size + 2) (some ⟨g2, 0, none⟩) (n / 32 + 2) o ∧
    Hid (o.length = n / 32 + 2 ∧ (∀ j, (val o).testBit j = (decide (j < k) && ib X (u + j)))) ∧ RC wr (w.heap.size + 1) 6 ∧ Below w.heap.size w wr)
  case atStart => exact ⟨0, _, Nat.zero_le _, rfl, rfl, P1, P2, Lib.hid ⟨by simp, fun j => bits_start _ j (fun j => ib X (u + j))⟩, RR, BB9⟩
  case round =>
    obtain ⟨k, o, hk, rfl, rfl, Q1, Q2, hI, RR2, BB2⟩ := hrel
    by_cases hk0 : k < n
    · obtain ⟨hol, hbits⟩ := hI.out
      have hk32 : k / 32 < o.length := by rw [hol]; omega
      have cx := Q2.cell (k := k / 32) hk32
      have fx := Q2.frozen (k / 32)
      have hs32 : k % 32 < 32 := Nat.mod_lt _ (by omega)
      have hxl := wd_lt Q2.b32 (k / 32)
      have hcl : ∀ v : World, v = wr.drew → Calls Try.prog 46 #[.slice (some ⟨g1, 0, none⟩) (M + 2) (M + 2), .int .i64 ((u : Int) + (k : Int))] v fun e w' => e = .returned (.int .u32 ((if ib X (u + k) then 1 else 0 : Nat) : Int)) ∧ w' = v := fun v hv => by
        subst hv
        have h := bit_any (some ⟨g1, 0, none⟩) (M + 2) (M + 2) (rowI (M + 2) X) wr.drew ((u : Int) + (k : Int)) (u + k) (by omega) (by omega) (rowI_len _ _).symm (Q1.drewN 1).rw
        rw [bitN_bit, rowI_val, lowN_bit, decide_eq_true (by have := HUE.out; omega), Bool.true_and] at h
        exact h.mono fun _ _ ⟨a, b⟩ => ⟨a, b.symm⟩
      have hcl := hcl _ rfl
      have hw0 : IntKind.i64.wrap ((u : Int) + (k : Int)) = (u : Int) + (k : Int) := IntWalk.i64_in _ (by have := HUE.out; omega)
      have hw1 : IntKind.i64.wrap ((k : Int) / 32) = (k : Int) / 32 := IntWalk.i64_in _ (by omega)
      have hw2 : IntKind.i64.wrap ((k : Int) % 32) = (k : Int) % 32 := IntWalk.i64_in _ (by omega)
      have hw3 : (0 : Int) ≤ (k : Int) / 32 := by omega
      have hw4 : (k : Int) / 32 < (n : Int) / 32 + 2 := by omega
      have hw6 : ((k : Int) / 32).toNat = k / 32 := by omega
      have hw9 : (k : Int).tmod 32 = (k : Int) % 32 := Int.tmod_eq_emod_of_nonneg (by omega)
      have hw7 : (0 : Int) ≤ (k : Int) % 32 := by omega
      have hw8 : (k : Int) % 32 < 32 := by omega
      have hfw := field_wordr (x := wd o (k / 32)) (s := k % 32) hxl (ib X (u + k)) hs32
      have hlt := or_bitk_lt hxl (ib X (u + k)) hs32
      have hset := Q2.set (k / 32) hlt
      have hst := bits_step (f := fun j => ib X (u + j)) Q2.b32 hk32 hbits
      have HI : Hid ((o.set (k / 32) (wd o (k / 32) ||| ((if ib X (u + k) then 1 else 0) * 2 ^ (k % 32)))).length = n / 32 + 2 ∧ (∀ j, (val (o.set (k / 32) (wd o (k / 32) ||| ((if ib X (u + k) then 1 else 0) * 2 ^ (k % 32))))).testBit j = (decide (j < k + 1) && ib X (u + j)))) := ⟨by rw [List.length_set]; exact hol, hst⟩
      have Q1' := Q1.far (p := ⟨g2, k / 32, none⟩) (fun g' hA => by cases hA; show g1 ≠ g2; omega) (.int .u32 (((wd o (k / 32) ||| ((if ib X (u + k) then 1 else 0) * 2 ^ (k % 32))) : Nat) : Int))
      have hg2 := Q2.lt.1
      have RR2' := (RR2.sb.far (p := ⟨g2, k / 32, none⟩) (by show w.heap.size + 1 ≠ g2; omega) (.int .u32 (((wd o (k / 32) ||| ((if ib X (u + k) then 1 else 0) * 2 ^ (k % 32))) : Nat) : Int))).rc (n := 6)
      have BB2' := BB2.setCell (p := ⟨g2, k / 32, none⟩) (by show w.heap.size ≤ g2; omega) (.int .u32 (((wd o (k / 32) ||| ((if ib X (u + k) then 1 else 0) * 2 ^ (k % 32))) : Nat) : Int))
      rw [← hfw] at hset Q1' RR2' BB2'
      clear hol hbits hst hfw hlt
      generalize hbv : (if ib X (u + k) = true then 1 else 0 : Nat) = bv at *
      clear hbv
      go_wp2_with fail
      refine wp_region_still_tail 15 (by kernel_rfl) (by kernel_rfl) ?_
      simp only [List.take_succ_cons, List.take_zero, List.drop_succ_cons, List.drop_zero]
      repeat still_step
      still_call hcl
      repeat still_step
      try refine wpStill_nil ?_
      go_wp2_with fail
      go_roundg (n - (k + 1))
      case measure => omega
      case rel => exact ⟨k + 1, _, by omega, rfl, by go_num, Q1', hset, HI, RR2', bdN BB2' 1⟩
    · obtain rfl : k = n := by omega
      obtain ⟨hol, hbits⟩ := hI.out
      have hv := bits_end hbits
      have hN := rbnum_any (some ⟨g2, 0, none⟩) (k / 32 + 2) (k / 32 + 2) o wr hol.symm Q2.rw (by omega) (by omega)
      have hval : Hid (tcI (32 * o.length) (val o) = ((fieldN X u k : Nat) : Int)) := by
        show _ = _
        rw [hv, hol]
        unfold tcI
        rw [if_pos]
        exact Nat.lt_of_lt_of_le (fieldN_lt X u k) (Nat.pow_le_pow_right (by omega) (by omega))
      rw [hval.out] at hN
      clear hol hI hval hk0 hv hbits
      obtain ⟨R, hR⟩ : ∃ R, Hid (fitQ ((fieldN X u k : Int) : Rat) 0 = R) := ⟨_, rfl⟩
      rw [hR.out] at hN
      obtain ⟨fr, fi, fk⟩ := R
      go_wp2_with fail
      refine hN.mono ?_; rintro e9 w9 ⟨H1, h1, I1, i1, H2, h2, I2, i2, rfl, O1, O2, O3, O4, B5⟩
      dsimp only at O1 O2 O3 O4
      have hRC := (RR2.nx B5)
      have hzr := RR2.2
      have BB5 := bt BB2 B5
      go_wp2_with (refine wp_st6 rfl (.tmp 6) (.tmp 71) rfl _ rfl _ _ _ _ _ _ rfl hRC rfl rfl rfl rfl rfl rfl ?_)
      have s6 := hRC.put6 (.bool fr.s) (.slice H1 fr.a.length h1) (.slice I1 fr.b.length i1) (.bool fi.s) (.slice H2 fi.a.length h2) (.slice I2 fi.b.length i2)
      have B6 := wr6_below (b := w.heap.size + 1) BB5 (by omega) (.bool fr.s) (.slice H1 fr.a.length h1) (.slice I1 fr.b.length i1) (.bool fi.s) (.slice H2 fi.a.length h2) (.slice I2 fi.b.length i2)
      have Oa := O1.put6 (b := w.heap.size + 1) hzr (.bool fr.s) (.slice H1 fr.a.length h1) (.slice I1 fr.b.length i1) (.bool fi.s) (.slice H2 fi.a.length h2) (.slice I2 fi.b.length i2)
      have Ob := O2.put6 (b := w.heap.size + 1) hzr (.bool fr.s) (.slice H1 fr.a.length h1) (.slice I1 fr.b.length i1) (.bool fi.s) (.slice H2 fi.a.length h2) (.slice I2 fi.b.length i2)
      have Oc := O3.put6 (b := w.heap.size + 1) hzr (.bool fr.s) (.slice H1 fr.a.length h1) (.slice I1 fr.b.length i1) (.bool fi.s) (.slice H2 fi.a.length h2) (.slice I2 fi.b.length i2)
      have Od := O4.put6 (b := w.heap.size + 1) hzr (.bool fr.s) (.slice H1 fr.a.length h1) (.slice I1 fr.b.length i1) (.bool fi.s) (.slice H2 fi.a.length h2) (.slice I2 fi.b.length i2)
      have r0' := s6.cell 0
      have r1' := s6.cell 1
      have r2' := s6.cell 2
      have r3' := s6.cell 3
      have r4' := s6.cell 4
      have r5' := s6.cell 5
      refine bodyPost_ret (v := .tuple #[.agg #[.bool fr.s, .slice H1 fr.a.length h1, .slice I1 fr.b.length i1, .bool fi.s, .slice H2 fi.a.length h2, .slice I2 fi.b.length i2], .int .i64 fk]) (by simp [results, r0', r1', r2', r3', r4', r5', go_sem]) rfl ?_
      rw [hR.out]
      exact ⟨H1, h1, I1, i1, H2, h2, I2, i2, rfl, Oa.base_le (by omega), Ob.base_le (by omega), Oc.base_le (by omega), Od.base_le (by omega), B6⟩

/-- Field's answer -/
def qfieldA (r i : Rw) (u e : Int) : Rw × Rw × Int :=
  if bchkN1 r i = 0 then (if u < 0 ∨ e < u ∨ 16384 < e then (rw0, rw0, 1) else fitQ ((fieldN (iv r) u.toNat (e.toNat - u.toNat) : Int) : Rat) 0) else (rw0, rw0, bchkN1 r i)

theorem bfield_any (V : Value) (r i : Rw) (u e : Int) (w : World) (hV : VN w w.heap.size V r i) :
    Calls Try.prog 16 #[V, .int .i64 u, .int .i64 e] w (RetNE w (qfieldA r i u e)) := by
  obtain ⟨A1, c1, D1, d1, A2, c2, D2, d2, rfl, p1, p2, p3, p4⟩ := hV
  unfold qfieldA
  by_cases hk : bchkN1 r i = 0
  · rw [if_pos hk]
    obtain ⟨x1, x2, x3⟩ := wB_rw (bchk1_zero hk)
    by_cases h : u < 0 ∨ e < u ∨ 16384 < e
    · rw [if_pos h]
      by_cases h1 : u < 0
      · exact bfield_neg r.s i.s r.a r.b i.a i.b A1 D1 A2 D2 c1 d1 c2 d2 w p1 p2 p3 p4 u e h1 hk
      · by_cases h2 : e < u
        · exact bfield_back r.s i.s r.a r.b i.a i.b A1 D1 A2 D2 c1 d1 c2 d2 w p1 p2 p3 p4 u e ⟨h1, h2⟩ hk
        · exact bfield_far r.s i.s r.a r.b i.a i.b A1 D1 A2 D2 c1 d1 c2 d2 w p1 p2 p3 p4 u e ⟨h1, h2, by omega⟩ hk
    · rw [if_neg h]
      obtain ⟨u', rfl⟩ : ∃ u' : Nat, u = (u' : Int) := ⟨u.toNat, by omega⟩
      obtain ⟨e', rfl⟩ : ∃ e' : Nat, e = (e' : Int) := ⟨e.toNat, by omega⟩
      exact bfield_ok r.s i.s r.a r.b i.a i.b A1 D1 A2 D2 c1 d1 c2 d2 w p1 p2 p3 p4 (iv r) u' e' (by omega) (by omega) (Lib.hid x1) x3 hk
  · rw [if_neg hk]
    exact bfield_bad r.s i.s r.a r.b i.a i.b A1 D1 A2 D2 c1 d1 c2 d2 w p1 p2 p3 p4 u e _ rfl (beq_eq_false_iff_ne.2 hk)

theorem rbfield_any (V : Value) (r i : Rw) (u e : Int) (w : World) (hV : VN w w.heap.size V r i) :
    Calls Try.prog 17 #[V, .int .i64 u, .int .i64 e] w (RetNE w (qfieldA r i u e)) := by
  obtain ⟨A1, c1, D1, d1, A2, c2, D2, d2, rfl, p1, p2, p3, p4⟩ := hV
  unfold qfieldA
  by_cases hk : bchkN1 r i = 0
  · rw [if_pos hk]
    obtain ⟨x1, x2, x3⟩ := wB_rw (bchk1_zero hk)
    by_cases h : u < 0 ∨ e < u ∨ 16384 < e
    · rw [if_pos h]
      by_cases h1 : u < 0
      · exact rbfield_neg r.s i.s r.a r.b i.a i.b A1 D1 A2 D2 c1 d1 c2 d2 w p1 p2 p3 p4 u e h1 hk
      · by_cases h2 : e < u
        · exact rbfield_back r.s i.s r.a r.b i.a i.b A1 D1 A2 D2 c1 d1 c2 d2 w p1 p2 p3 p4 u e ⟨h1, h2⟩ hk
        · exact rbfield_far r.s i.s r.a r.b i.a i.b A1 D1 A2 D2 c1 d1 c2 d2 w p1 p2 p3 p4 u e ⟨h1, h2, by omega⟩ hk
    · rw [if_neg h]
      obtain ⟨u', rfl⟩ : ∃ u' : Nat, u = (u' : Int) := ⟨u.toNat, by omega⟩
      obtain ⟨e', rfl⟩ : ∃ e' : Nat, e = (e' : Int) := ⟨e.toNat, by omega⟩
      exact rbfield_ok r.s i.s r.a r.b i.a i.b A1 D1 A2 D2 c1 d1 c2 d2 w p1 p2 p3 p4 (iv r) u' e' (by omega) (by omega) (Lib.hid x1) x3 hk
  · rw [if_neg hk]
    exact rbfield_bad r.s i.s r.a r.b i.a i.b A1 D1 A2 D2 c1 d1 c2 d2 w p1 p2 p3 p4 u e _ rfl (beq_eq_false_iff_ne.2 hk)

end Go.Proofs.Ytnlgoedklmjhlaa
namespace Go.Proofs.Ytnlgoedklmjhlaa
open Go.RowKit

set_option maxRecDepth 100000 in
set_option maxHeartbeats 16000000 in
theorem bitsFields_walk (V : Value) (ra ia : Rw) (u e : Int) (w : World) (hV : VN w w.heap.size V ra ia) (_ : -9223372036854775808 ≤ u ∧ u ≤ 9223372036854775807) (_ : -9223372036854775808 ≤ e ∧ e ≤ 9223372036854775807) :
    Calls Try.prog 4 #[V, .int .i64 u, .int .i64 e] w fun e w' => e = .returned (.bool true) ∧ Below w.heap.size w w' := by
  obtain ⟨A1, c1, D1, d1, A2, c2, D2, d2, rfl, p1, p2, p3, p4⟩ := hV
  have S_a := SB.new w [.bool ra.s, .slice A1 ra.a.length c1, .slice D1 ra.b.length d1, .bool ia.s, .slice A2 ia.a.length c2, .slice D2 ia.b.length d2] 26
  have C0 := bal w (.cells #[.bool ra.s, .slice A1 ra.a.length c1, .slice D1 ra.b.length d1, .bool ia.s, .slice A2 ia.a.length c2, .slice D2 ia.b.length d2] 26)
  have H_a : VN w w.heap.size (.agg #[.bool ra.s, .slice A1 ra.a.length c1, .slice D1 ra.b.length d1, .bool ia.s, .slice A2 ia.a.length c2, .slice D2 ia.b.length d2]) ra ia := ⟨A1, c1, D1, d1, A2, c2, D2, d2, rfl, p1, p2, p3, p4⟩
  have H_a := H_a.st C0
  clear p1 p2 p3 p4
  have o0 := fun V w' h1 => bfield_any V ra ia u e w' h1
  have o1 := fun V w' h1 => rbfield_any V ra ia u e w' h1
  rcases en : qfieldA ra ia u e with ⟨nr, ni, nk⟩
  rw [en] at o0 o1
  clear en
  have l0 := fun V U w' h1 h2 => alike_any V U nr ni nr ni w' h1 h2
  rw [alikeB_self] at l0
  obtain ⟨W0, hW0⟩ : ∃ W0, W0 = w.alloc (.cells #[.bool ra.s, .slice A1 ra.a.length c1, .slice D1 ra.b.length d1, .bool ia.s, .slice A2 ia.a.length c2, .slice D2 ia.b.length d2] 26) := ⟨_, rfl⟩
  go_enter Try.func4, Try.ntmps4
  have i0 := S_a.cell 0
  have i1 := S_a.cell 1
  have i2 := S_a.cell 2
  have i3 := S_a.cell 3
  have i4 := S_a.cell 4
  have i5 := S_a.cell 5
  go_wp2_with fail
  rw [← hW0] at S_a C0 H_a ⊢
  clear hW0
  clear i0 i1 i2 i3 i4 i5
  refine (o0 _ _ H_a).mono ?_; rintro e w3 ⟨A3a, c3a, D3a, d3a, A3b, c3b, D3b, d3b, rfl, O3a, O3b, O3c, O3d, B3⟩
  try dsimp only at O3a O3b O3c O3d
  have H_x0 : VN w3 w3.heap.size (.agg #[.bool nr.s, .slice A3a nr.a.length c3a, .slice D3a nr.b.length d3a, .bool ni.s, .slice A3b ni.a.length c3b, .slice D3b ni.b.length d3b]) nr ni := ⟨A3a, c3a, D3a, d3a, A3b, c3b, D3b, d3b, rfl, O3a.rw, O3b.rw, O3c.rw, O3d.rw⟩
  clear O3a O3b O3c O3d
  have S_a := S_a.nx B3
  have H_a := H_a.st B3
  have C0 := bt C0 B3
  have L3 := bal w3 (.cells #[.bool nr.s, .slice A3a nr.a.length c3a, .slice D3a nr.b.length d3a, .bool ni.s, .slice A3b ni.a.length c3b, .slice D3b ni.b.length d3b] 26)
  have S_x0 := SB.new w3 [.bool nr.s, .slice A3a nr.a.length c3a, .slice D3a nr.b.length d3a, .bool ni.s, .slice A3b ni.a.length c3b, .slice D3b ni.b.length d3b] 26
  have S_a := S_a.nx L3
  have H_a := H_a.st L3
  have H_x0 := H_x0.st L3
  have C0 := bt C0 L3
  have i0 := S_a.cell 0
  have i1 := S_a.cell 1
  have i2 := S_a.cell 2
  have i3 := S_a.cell 3
  have i4 := S_a.cell 4
  have i5 := S_a.cell 5
  go_wp2_with fail
  clear i0 i1 i2 i3 i4 i5
  refine (o1 _ _ H_a).mono ?_; rintro e w4 ⟨A4a, c4a, D4a, d4a, A4b, c4b, D4b, d4b, rfl, O4a, O4b, O4c, O4d, B4⟩
  try dsimp only at O4a O4b O4c O4d
  have H_y0 : VN w4 w4.heap.size (.agg #[.bool nr.s, .slice A4a nr.a.length c4a, .slice D4a nr.b.length d4a, .bool ni.s, .slice A4b ni.a.length c4b, .slice D4b ni.b.length d4b]) nr ni := ⟨A4a, c4a, D4a, d4a, A4b, c4b, D4b, d4b, rfl, O4a.rw, O4b.rw, O4c.rw, O4d.rw⟩
  clear O4a O4b O4c O4d
  have S_a := S_a.nx B4
  have H_a := H_a.st B4
  have S_x0 := S_x0.nx B4
  have H_x0 := H_x0.st B4
  have C0 := bt C0 B4
  have L4 := bal w4 (.cells #[.bool nr.s, .slice A4a nr.a.length c4a, .slice D4a nr.b.length d4a, .bool ni.s, .slice A4b ni.a.length c4b, .slice D4b ni.b.length d4b] 26)
  have S_y0 := SB.new w4 [.bool nr.s, .slice A4a nr.a.length c4a, .slice D4a nr.b.length d4a, .bool ni.s, .slice A4b ni.a.length c4b, .slice D4b ni.b.length d4b] 26
  have S_a := S_a.nx L4
  have H_a := H_a.st L4
  have S_x0 := S_x0.nx L4
  have H_x0 := H_x0.st L4
  have H_y0 := H_y0.st L4
  have C0 := bt C0 L4
  go_wp2_with fail
  refine (awake4_any _).mono ?_; rintro e w20 ⟨rfl, B20⟩
  have S_a := S_a.nx B20
  have H_a := H_a.st B20
  have S_x0 := S_x0.nx B20
  have H_x0 := H_x0.st B20
  have S_y0 := S_y0.nx B20
  have H_y0 := H_y0.st B20
  have C0 := bt C0 B20
  have i0 := S_x0.cell 0
  have i1 := S_x0.cell 1
  have i2 := S_x0.cell 2
  have i3 := S_x0.cell 3
  have i4 := S_x0.cell 4
  have i5 := S_x0.cell 5
  have j0 := S_y0.cell 0
  have j1 := S_y0.cell 1
  have j2 := S_y0.cell 2
  have j3 := S_y0.cell 3
  have j4 := S_y0.cell 4
  have j5 := S_y0.cell 5
  go_wp2_with fail
  refine (l0 _ _ _ H_x0 H_y0).mono ?_; rintro e w21 ⟨rfl, B21⟩
  have S_a := S_a.nx B21
  have H_a := H_a.st B21
  have S_x0 := S_x0.nx B21
  have H_x0 := H_x0.st B21
  have S_y0 := S_y0.nx B21
  have H_y0 := H_y0.st B21
  have C0 := bt C0 B21
  clear i0 i1 i2 i3 i4 i5
  clear j0 j1 j2 j3 j4 j5
  go_wp2_with fail
  go_ret
  exact ⟨rfl, C0⟩
end Go.Proofs.Ytnlgoedklmjhlaa
