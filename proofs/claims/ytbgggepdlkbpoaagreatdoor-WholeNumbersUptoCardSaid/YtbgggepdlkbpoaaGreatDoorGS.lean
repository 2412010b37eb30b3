/- Merged texts: BiX, PlainW, ExV, BiY, MemT, WtT, WtV. -/
import Derived.Test.YtbgggepdlkbpoaaGreatDoorGR
import Derived.Test.YtbgggepdlkbpoaaGreatDoorGO
import Derived.Test.YtbgggepdlkbpoaaGreatDoorGI
import Derived.Test.YtbgggepdlkbpoaaGreatDoorGG
import Derived.Test.YtbgggepdlkbpoaaGreatDoorGA
import Derived.WalkKit
import Derived.Lib.Hide
import Derived.BigQuiet
import Derived.Deep.QuietTactic
import Derived.Deep.RegionWith
import Derived.Deep.Draws
import Derived.Maps.AppendAt
import Derived.Test.YtbgggepdlkbpoaaGreatDoorProg
import Derived.Test.YtbgggepdlkbpoaaGreatDoorGB
namespace Go.Proofs.YtbgggepdlkbpoaaGreatDoor
open Go.RowKit

/-- what Count and Length answer -/
def qcountA (r i : Rw) : Int × Int := if bchkN1 r i = 0 then (if r.s = true then -(pcN (-(iv r) - 1).toNat : Nat) - 1 else (pcN (val r.a) : Nat), 0) else (0, bchkN1 r i)
def qlenA (r i : Rw) : Int × Int := if bchkN1 r i = 0 then (if r.s = true then (blen (-(iv r) - 1).toNat : Nat) else (blen (val r.a) : Nat), 0) else (0, bchkN1 r i)
theorem iv_neg {r i : Rw} (h : wB r i = true) (hs : r.s = true) : iv r < 0 := by
  have e := iv_sign h
  rw [hs] at e
  exact of_decide_eq_true e.symm

theorem blength_any (V : Value) (r i : Rw) (w : World) (hV : VN w w.heap.size V r i) :
    Calls Tryz.prog 4 #[V] w fun e w' => e = .returned (.tuple #[.int .i64 (qlenA r i).1, .int .i64 (qlenA r i).2]) ∧ Below w.heap.size w w' := by
  obtain ⟨A1, c1, D1, d1, A2, c2, D2, d2, rfl, p1, p2, p3, p4⟩ := hV
  unfold qlenA
  by_cases hk : bchkN1 r i = 0
  · rw [if_pos hk]
    obtain ⟨x1, x2, x3⟩ := wB_rw (bchk1_zero hk)
    obtain ⟨h1, _⟩ := wB_int (bchk1_zero hk)
    have hng := iv_neg (bchk1_zero hk)
    obtain ⟨s, a, b⟩ := r
    cases s with
    | true =>
      rw [if_pos rfl]
      have hn := hng rfl
      exact blength_neg i.s a b i.a i.b A1 D1 A2 D2 c1 d1 c2 d2 w p1 p2 p3 p4 (iv ⟨true, a, b⟩) (-(iv ⟨true, a, b⟩) - 1).toNat (by omega) (Lib.hid ⟨x1, x2⟩) x3 hk
    | false =>
      rw [if_neg (by simp)]
      exact blength_pos i.s a b i.a i.b A1 D1 A2 D2 c1 d1 c2 d2 w p1 p2 p3 p4 (Nrm_of_digs h1) hk
  · rw [if_neg hk]
    exact blength_bad r.s i.s r.a r.b i.a i.b A1 D1 A2 D2 c1 d1 c2 d2 w p1 p2 p3 p4 _ rfl (beq_eq_false_iff_ne.2 hk)

end Go.Proofs.YtbgggepdlkbpoaaGreatDoor
namespace Go.Proofs.YtbgggepdlkbpoaaGreatDoor

/-- a number's lowest bit -/
def b0 (X : Int) : Int := if ib X 0 then 1 else 0
theorem half (X : Int) : X = 2 * (X / 2) + b0 X := by
  unfold b0 ib
  by_cases h : X < 0
  · obtain ⟨m, rfl⟩ : ∃ m : Nat, X = -(m : Int) - 1 := ⟨(-X - 1).toNat, by omega⟩
    rw [if_pos h, show (-(-(m : Int) - 1) - 1).toNat = m by omega, Nat.testBit_zero]
    by_cases hm : m % 2 = 1
    · simp [hm]; omega
    · simp [hm]; omega
  · obtain ⟨m, rfl⟩ : ∃ m : Nat, X = (m : Int) := ⟨X.toNat, by omega⟩
    rw [if_neg h, Int.toNat_natCast, Nat.testBit_zero]
    by_cases hm : m % 2 = 1
    · simp [hm]; omega
    · simp [hm]; omega
theorem ib_half (X : Int) (k : Nat) : ib (X / 2) k = ib X (k + 1) := by
  have h := ib_down X 1 k
  rw [show ((2 ^ 1 : Nat) : Int) = 2 from rfl, Nat.add_comm] at h
  exact h
theorem isOp_half {f : Bool → Bool → Bool} {Z X Y : Int} (h : isOp f Z X Y) : isOp f (Z / 2) (X / 2) (Y / 2) := fun k => by
  rw [ib_half, ib_half, ib_half]; exact h (k + 1)
theorem ib_zero (k : Nat) : ib 0 k = false := by unfold ib; simp
theorem ib_minus (k : Nat) : ib (-1) k = true := by unfold ib; simp
/-- a number between -2^0 and 2^0 is 0 or -1 -/
theorem small_two {X : Int} (h1 : -((2 ^ 0 : Nat) : Int) ≤ X) (h2 : X < ((2 ^ 0 : Nat) : Int)) : X = 0 ∨ X = -1 := by
  rw [Nat.pow_zero] at h1 h2; omega
theorem half_range {X : Int} {N : Nat} (h1 : -((2 ^ (N + 1) : Nat) : Int) ≤ X) (h2 : X < ((2 ^ (N + 1) : Nat) : Int)) : -((2 ^ N : Nat) : Int) ≤ X / 2 ∧ X / 2 < ((2 ^ N : Nat) : Int) := by
  rw [Nat.pow_succ] at h1 h2; omega
/-- bit by bit operations keep the range, and a linear law of the bits is one of the numbers -/
theorem isOp_lin {f g : Bool → Bool → Bool} {a b c d : Int} (hl : ∀ p q : Bool, a * (if f p q then 1 else 0) + b * (if g p q then 1 else 0) = c * (if p then 1 else 0) + d * (if q then 1 else 0)) (N : Nat) :
    ∀ {U V X Y : Int}, isOp f U X Y → isOp g V X Y → -((2 ^ N : Nat) : Int) ≤ X → X < ((2 ^ N : Nat) : Int) → -((2 ^ N : Nat) : Int) ≤ Y → Y < ((2 ^ N : Nat) : Int) → a * U + b * V = c * X + d * Y := by
  induction N with
  | zero =>
    intro U V X Y hu hv x1 x2 y1 y2
    have key : ∀ p q : Bool, X = (if p then -1 else 0) → Y = (if q then -1 else 0) → a * U + b * V = c * X + d * Y := by
      intro p q ep eq
      have bx : ∀ k, ib X k = p := fun k => by rw [ep]; cases p <;> simp [ib_zero, ib_minus]
      have by_ : ∀ k, ib Y k = q := fun k => by rw [eq]; cases q <;> simp [ib_zero, ib_minus]
      have eu : U = if f p q then -1 else 0 := ib_ext fun k => by
        rw [hu k, bx, by_]
        cases f p q <;> simp [ib_zero, ib_minus]
      have ev : V = if g p q then -1 else 0 := ib_ext fun k => by
        rw [hv k, bx, by_]
        cases g p q <;> simp [ib_zero, ib_minus]
      have h := hl p q
      rw [eu, ev, ep, eq]
      have neg : ∀ (t : Bool), (if t = true then (-1 : Int) else 0) = -(if t = true then (1 : Int) else 0) := fun t => by cases t <;> rfl
      rw [neg, neg, neg, neg, Int.mul_neg, Int.mul_neg, Int.mul_neg, Int.mul_neg]
      omega
    rcases small_two x1 x2 with hx | hx <;> rcases small_two y1 y2 with hy | hy
    · exact key false false (by simp [hx]) (by simp [hy])
    · exact key false true (by simp [hx]) (by simp [hy])
    · exact key true false (by simp [hx]) (by simp [hy])
    · exact key true true (by simp [hx]) (by simp [hy])
  | succ N ih =>
    intro U V X Y hu hv x1 x2 y1 y2
    obtain ⟨x3, x4⟩ := half_range x1 x2
    obtain ⟨y3, y4⟩ := half_range y1 y2
    have h := ih (isOp_half hu) (isOp_half hv) x3 x4 y3 y4
    have l := hl (ib X 0) (ib Y 0)
    have bu : b0 U = if f (ib X 0) (ib Y 0) then 1 else 0 := by unfold b0; rw [hu 0]
    have bv : b0 V = if g (ib X 0) (ib Y 0) then 1 else 0 := by unfold b0; rw [hv 0]
    rw [← bu, ← bv] at l
    have eX := half X
    have eY := half Y
    have eU := half U
    have eV := half V
    unfold b0 at eX eY
    generalize (if ib X 0 = true then (1 : Int) else 0) = p at *
    generalize (if ib Y 0 = true then (1 : Int) else 0) = q at *
    generalize b0 U = r at *
    generalize b0 V = s at *
    generalize U / 2 = u at *
    generalize V / 2 = v at *
    generalize X / 2 = x at *
    generalize Y / 2 = y at *
    rw [eU, eV, eX, eY]
    grind
/-- any two numbers lie in a common range -/
theorem range_of (X Y : Int) : ∃ N : Nat, -((2 ^ N : Nat) : Int) ≤ X ∧ X < ((2 ^ N : Nat) : Int) ∧ -((2 ^ N : Nat) : Int) ≤ Y ∧ Y < ((2 ^ N : Nat) : Int) := by
  refine ⟨X.natAbs + Y.natAbs, ?_⟩
  have h := Nat.lt_two_pow_self (n := X.natAbs + Y.natAbs)
  omega
theorem and_or_sum {A O X Y : Int} (ha : isOp (fun p q => p && q) A X Y) (ho : isOp (fun p q => p || q) O X Y) : A + O = X + Y := by
  obtain ⟨N, h1, h2, h3, h4⟩ := range_of X Y
  have h := isOp_lin (f := fun p q => p && q) (g := fun p q => p || q) (a := 1) (b := 1) (c := 1) (d := 1) (by intro p q; cases p <;> cases q <;> rfl) N ha ho h1 h2 h3 h4
  omega
theorem or_and_diff {A O E X Y : Int} (ha : isOp (fun p q => p && q) A X Y) (ho : isOp (fun p q => p || q) O X Y) (hx : isOp (fun p q => p != q) E X Y) : O - A = E := by
  obtain ⟨N, h1, h2, h3, h4⟩ := range_of X Y
  have e1 := and_or_sum ha ho
  have h := isOp_lin (f := fun p q => p && q) (g := fun p q => p != q) (a := 2) (b := 1) (c := 1) (d := 1) (by intro p q; cases p <;> cases q <;> rfl) N ha hx h1 h2 h3 h4
  omega
theorem not_exchanges {A O X Y : Int} (ha : isOp (fun p q => p && q) A X Y) (ho : isOp (fun p q => p || q) O (-X - 1) (-Y - 1)) : O = -A - 1 :=
  ib_ext fun k => by rw [ho k, ib_not, ib_not, ib_not, ha k]; simp
/-- an operation's number is in the numbers' range -/
theorem isOp_range {f : Bool → Bool → Bool} (N : Nat) : ∀ {Z X Y : Int}, isOp f Z X Y → -((2 ^ N : Nat) : Int) ≤ X → X < ((2 ^ N : Nat) : Int) → -((2 ^ N : Nat) : Int) ≤ Y → Y < ((2 ^ N : Nat) : Int) → -((2 ^ N : Nat) : Int) ≤ Z ∧ Z < ((2 ^ N : Nat) : Int) := by
  induction N with
  | zero =>
    intro Z X Y h x1 x2 y1 y2
    have key : ∀ p q : Bool, X = (if p then -1 else 0) → Y = (if q then -1 else 0) → Z = 0 ∨ Z = -1 := by
      intro p q ep eq
      have bx : ∀ k, ib X k = p := fun k => by rw [ep]; cases p <;> simp [ib_zero, ib_minus]
      have by_ : ∀ k, ib Y k = q := fun k => by rw [eq]; cases q <;> simp [ib_zero, ib_minus]
      cases hf : f p q with
      | false => left; exact ib_ext fun k => by rw [h k, bx, by_, hf, ib_zero]
      | true => right; exact ib_ext fun k => by rw [h k, bx, by_, hf, ib_minus]
    have hz : Z = 0 ∨ Z = -1 := by
      rcases small_two x1 x2 with hx | hx <;> rcases small_two y1 y2 with hy | hy
      · exact key false false (by simp [hx]) (by simp [hy])
      · exact key false true (by simp [hx]) (by simp [hy])
      · exact key true false (by simp [hx]) (by simp [hy])
      · exact key true true (by simp [hx]) (by simp [hy])
    rw [Nat.pow_zero]; omega
  | succ N ih =>
    intro Z X Y h x1 x2 y1 y2
    obtain ⟨x3, x4⟩ := half_range x1 x2
    obtain ⟨y3, y4⟩ := half_range y1 y2
    obtain ⟨z1, z2⟩ := ih (isOp_half h) x3 x4 y3 y4
    have e := half Z
    have hb : b0 Z = 0 ∨ b0 Z = 1 := by unfold b0; split <;> simp
    rw [Nat.pow_succ]
    omega
end Go.Proofs.YtbgggepdlkbpoaaGreatDoor
namespace Go.Proofs.YtbgggepdlkbpoaaGreatDoor
open Go.RowKit

theorem fitQ_inv {p q : Rat} {a b : Rw} (h : fitQ p q = (a, b, 0)) : a = rwq p ∧ b = rwq q ∧ qw p ≤ 512 ∧ qw q ≤ 512 := by
  unfold fitQ at h
  split at h
  · next hq =>
    simp only [Prod.mk.injEq] at h
    exact ⟨h.1.symm, h.2.1.symm, hq.1, hq.2⟩
  · simp at h
section
variable {x y u v : Rat} (hx : qw x ≤ 512) (hy : qw y ≤ 512) (hu : qw u ≤ 512) (hv : qw v ≤ 512)
include hx hy hu hv
theorem qaddA_q : qaddA (rwq x) (rwq y) (rwq u) (rwq v) = fitQ (x + u) (y + v) := by
  unfold qaddA; rw [if_pos ⟨nB_rwq hx hy, nB_rwq hu hv⟩, qv_rwq, qv_rwq, qv_rwq, qv_rwq]
theorem qsubA_q : qsubA (rwq x) (rwq y) (rwq u) (rwq v) = fitQ (x + -u) (y + -v) := by
  unfold qsubA; rw [if_pos ⟨nB_rwq hx hy, nB_rwq hu hv⟩, qv_rwq, qv_rwq, qv_rwq, qv_rwq]
theorem qmulA_q : qmulA (rwq x) (rwq y) (rwq u) (rwq v) = fitQ (x * u + -(y * v)) (x * v + y * u) := by
  unfold qmulA; rw [if_pos ⟨nB_rwq hx hy, nB_rwq hu hv⟩, qv_rwq, qv_rwq, qv_rwq, qv_rwq]
theorem qdivA_q : qdivA (rwq x) (rwq y) (rwq u) (rwq v) = if u = 0 ∧ v = 0 then (rw0, rw0, 3) else divQ x y u v := by
  unfold qdivA; rw [if_pos ⟨nB_rwq hx hy, nB_rwq hu hv⟩, qv_rwq, qv_rwq, qv_rwq, qv_rwq]
theorem sameB_q : sameB (rwq x) (rwq y) (rwq u) (rwq v) = decide (x = u ∧ y = v) := by
  unfold sameB
  rw [nB_rwq hx hy, nB_rwq hu hv, Bool.true_and, Bool.true_and, Bool.decide_and]
  unfold rwq
  rw [fsB_q, fsB_q]
end
theorem qw0 : qw (0 : Rat) ≤ 512 := by decide_cbv
/-- the field's laws at what was answered without an error -/
theorem field_plain {x y u v p q : Rat} (hx : qw x ≤ 512) (hy : qw y ≤ 512) (hu : qw u ≤ 512) (hv : qw v ≤ 512) (hp : qw p ≤ 512) (hq : qw q ≤ 512)
    {sr si lr li xr xi yr yi rr ri : Rw} (h1 : qaddA (rwq u) (rwq v) (rwq p) (rwq q) = (sr, si, 0)) (h2 : qmulA (rwq x) (rwq y) sr si = (lr, li, 0))
    (h3 : qmulA (rwq u) (rwq v) (rwq x) (rwq y) = (xr, xi, 0)) (h4 : qmulA (rwq x) (rwq y) (rwq p) (rwq q) = (yr, yi, 0)) (h5 : qaddA xr xi yr yi = (rr, ri, 0)) :
    qsubA sr si (rwq p) (rwq q) = (rwq u, rwq v, 0) ∧ sameB lr li rr ri = true ∧ sameB (rwq u) (rwq v) (rwq u) (rwq v) = true ∧
      sameB (rwq x) (rwq y) (rwq 0) (rwq 0) = decide (x = 0 ∧ y = 0) ∧ qdivA xr xi (rwq x) (rwq y) = if x = 0 ∧ y = 0 then (rw0, rw0, 3) else (rwq u, rwq v, 0) := by
  rw [qaddA_q hu hv hp hq] at h1
  obtain ⟨rfl, rfl, a1, a2⟩ := fitQ_inv h1
  rw [qmulA_q hx hy a1 a2] at h2
  obtain ⟨rfl, rfl, b1, b2⟩ := fitQ_inv h2
  rw [qmulA_q hu hv hx hy] at h3
  obtain ⟨rfl, rfl, c1, c2⟩ := fitQ_inv h3
  rw [qmulA_q hx hy hp hq] at h4
  obtain ⟨rfl, rfl, d1, d2⟩ := fitQ_inv h4
  rw [qaddA_q c1 c2 d1 d2] at h5
  obtain ⟨rfl, rfl, e1, e2⟩ := fitQ_inv h5
  refine ⟨?_, ?_, ?_, sameB_q hx hy qw0 qw0, ?_⟩
  · rw [qsubA_q a1 a2 hp hq, show u + p + -p = u by grind, show v + q + -q = v by grind]
    exact fitQ_ok hu hv
  · rw [sameB_q b1 b2 e1 e2, decide_eq_true_eq]
    constructor <;> grind
  · rw [sameB_q hu hv hu hv, decide_eq_true_eq]
    exact ⟨rfl, rfl⟩
  · rw [qdivA_q c1 c2 hx hy]
    by_cases hz : x = 0 ∧ y = 0
    · rw [if_pos hz, if_pos hz]
    · rw [if_neg hz, if_neg hz]
      have hn : ¬ (x * x + y * y = 0) := fun h0 => (norm_pos' hz).2 (qt_zero.2 h0)
      unfold divQ
      rw [show (u * x + -(v * y)) * (x * (x * x + y * y)⁻¹) + -((u * y + v * x) * (-y * (x * x + y * y)⁻¹)) = u by grind,
        show (u * x + -(v * y)) * (-y * (x * x + y * y)⁻¹) + (u * y + v * x) * (x * (x * x + y * y)⁻¹) = v by grind]
      exact fitQ_ok hu hv
end Go.Proofs.YtbgggepdlkbpoaaGreatDoor
namespace Go.Proofs.YtbgggepdlkbpoaaGreatDoor
open Go.RowKit

/-- a whole number of up to 512 words, so taken -/
def Z5 (X : Int) : Prop := qw ((X : Int) : Rat) ≤ 512
theorem z5_of {r i : Rw} (h : wB r i = true) : r = rwq ((iv r : Int) : Rat) ∧ i = rwq 0 ∧ Z5 (iv r) ∧ (digs (iv r).natAbs).length = r.a.length := by
  obtain ⟨x1, x2, x3⟩ := wB_rw h
  have hl := iv_len h
  refine ⟨x1, x2, ?_, hl⟩
  unfold Z5 qw
  rw [qd_int, digs_one1, qt_int]
  exact Nat.max_le.2 ⟨by omega, by simp⟩
theorem z5_w {X : Int} (h : Z5 X) : wB (rwq ((X : Int) : Rat)) (rwq 0) = true ∧ iv (rwq ((X : Int) : Rat)) = X := by
  obtain ⟨s, v, e, h0⟩ : ∃ (s : Bool) (v : Nat), X = sgn s v ∧ (v = 0 → s = false) := by
    by_cases hX : X < 0
    · exact ⟨true, X.natAbs, by rw [sgn_true]; omega, fun h => by omega⟩
    · exact ⟨false, X.natAbs, by rw [sgn_false]; omega, fun _ => rfl⟩
  subst e
  have hl : (digs v).length ≤ 512 := by
    unfold Z5 at h
    rw [qw_int] at h
    omega
  refine ⟨nB_whole s v h0 hl, ?_⟩
  rw [rwq_int s v h0]
  unfold iv
  dsimp only
  rw [val_digs]
theorem z5_fit {X : Int} {a b : Rw} (h : fitQ ((X : Int) : Rat) 0 = (a, b, 0)) : a = rwq ((X : Int) : Rat) ∧ b = rwq 0 ∧ Z5 X := by
  obtain ⟨h1, h2, h3, _⟩ := fitQ_inv h
  exact ⟨h1, h2, h3⟩
theorem fit_err {p q : Rat} {a b : Rw} {k : Int} (h : fitQ p q = (a, b, k)) (hk : k ≠ 0) : a = rw0 ∧ b = rw0 ∧ k = 4 := by
  unfold fitQ at h
  split at h
  · simp only [Prod.mk.injEq] at h
    exact absurd h.2.2.symm hk
  · simp only [Prod.mk.injEq] at h
    exact ⟨h.1.symm, h.2.1.symm, h.2.2.symm⟩
/-- an operation's number -/
theorem op_is {g : Nat → Nat → Nat} {f : Bool → Bool → Bool} (hg : bitOp g f) {X Y : Int} {r r2 : Rw} (h1 : (digs X.natAbs).length = r.a.length) (h2 : (digs Y.natAbs).length = r2.a.length) : isOp f (rowOp g (max r.a.length r2.a.length + 1) X Y) X Y :=
  rowOp_is hg (by rw [h1]; omega) (by rw [h2]; omega)
theorem op_eq {g : Nat → Nat → Nat} {f : Bool → Bool → Bool} (hg : bitOp g f) {r i r2 i2 : Rw} (h1 : wB r i = true) (h2 : wB r2 i2 = true) : ∃ Z, isOp f Z (iv r) (iv r2) ∧ qbothA g r i r2 i2 = fitQ ((Z : Int) : Rat) 0 := by
  refine ⟨_, op_is hg (iv_len h1) (iv_len h2), ?_⟩
  unfold qbothA
  rw [if_pos (bchk2_of h1 h2)]
/-- words below 512 are enough -/
theorem op_fits {f : Bool → Bool → Bool} {Z X Y : Int} (h : isOp f Z X Y) (hx : (digs X.natAbs).length < 512) (hy : (digs Y.natAbs).length < 512) : Z5 Z := by
  have key : ∀ L : Nat, (digs X.natAbs).length ≤ L → (digs Y.natAbs).length ≤ L → (digs Z.natAbs).length ≤ L + 1 := by
    intro L h1 h2
    have e1 : X.natAbs < 2 ^ (32 * L) := by rw [← Wp_eq]; exact digs_len_le.1 h1
    have e2 : Y.natAbs < 2 ^ (32 * L) := by rw [← Wp_eq]; exact digs_len_le.1 h2
    obtain ⟨z1, z2⟩ := isOp_range (32 * L) h (by omega) (by omega) (by omega) (by omega)
    refine digs_len_le.2 ?_
    have e3 : Z.natAbs ≤ Wp L := by rw [Wp_eq]; omega
    have e4 := Wp_pos L
    rw [Wp_succ]
    omega
  unfold Z5 qw
  rw [qd_int, digs_one1, qt_int]
  exact Nat.max_le.2 ⟨key 511 (by omega) (by omega), by simp⟩
theorem laws_bad {ra ia rb ib mr mi dr di sr si : Rw} {mk dk sk : Int} (em : qbothA (· &&& ·) ra ia rb ib = (mr, mi, mk)) (ed : qbothA (· ||| ·) ra ia rb ib = (dr, di, dk)) (es : qbothA (· ^^^ ·) ra ia rb ib = (sr, si, sk)) (h : ¬ (mk = 0 ∧ dk = 0 ∧ sk = 0)) :
    wB ra ia = false ∨ wB rb ib = false ∨ ra.a.length = 512 ∨ rb.a.length = 512 := by
  by_cases h1 : wB ra ia = true
  · by_cases h2 : wB rb ib = true
    · obtain ⟨_, _, z1, l1⟩ := z5_of h1
      obtain ⟨_, _, z2, l2⟩ := z5_of h2
      have la := (wB_rw h1).2.2
      have lb := (wB_rw h2).2.2
      by_cases ha : ra.a.length = 512
      · exact .inr (.inr (.inl ha))
      · by_cases hb : rb.a.length = 512
        · exact .inr (.inr (.inr hb))
        · exfalso
          apply h
          have fin : ∀ {g : Nat → Nat → Nat} {f : Bool → Bool → Bool} {r i : Rw} {k : Int}, bitOp g f → qbothA g ra ia rb ib = (r, i, k) → k = 0 := by
            intro g f r i k hg e
            obtain ⟨Z, hz, hq⟩ := op_eq hg h1 h2
            rw [hq, fitQ_ok (op_fits hz (by omega) (by omega)) (by rw [qw_zero]; omega)] at e
            simp only [Prod.mk.injEq] at e
            exact e.2.2.symm
          exact ⟨fin bitOp_and em, fin bitOp_or ed, fin bitOp_xor es⟩
    · exact .inr (.inl (by simpa using h2))
  · exact .inl (by simpa using h1)
theorem both_ok {g : Nat → Nat → Nat} {ra ia rb ib r i : Rw} (e : qbothA g ra ia rb ib = (r, i, 0)) : wB ra ia = true ∧ wB rb ib = true := by
  unfold qbothA at e
  by_cases hk : bchkN2 ra ia rb ib = 0
  · exact bchk2_zero hk
  · rw [if_neg hk] at e
    simp only [Prod.mk.injEq] at e
    exact absurd e.2.2 hk
theorem laws_good {ra ia rb ib mr mi dr di sr si : Rw} (em : qbothA (· &&& ·) ra ia rb ib = (mr, mi, 0)) (ed : qbothA (· ||| ·) ra ia rb ib = (dr, di, 0)) (es : qbothA (· ^^^ ·) ra ia rb ib = (sr, si, 0)) :
    qaddA mr mi dr di = qaddA ra ia rb ib ∧ qsubA dr di mr mi = (sr, si, 0) ∧ sameB sr si sr si = true ∧ sameB ra ia ra ia = true ∧
    (∀ lr li, qaddA ra ia rb ib = (lr, li, 0) → sameB lr li lr li = true) ∧
    (∀ nar nai nbr nbi, qnotA ra ia = (nar, nai, 0) → qnotA rb ib = (nbr, nbi, 0) → qnotA nar nai = (ra, ia, 0) ∧ qbothA (· ||| ·) nar nai nbr nbi = qnotA mr mi) ∧ (∀ r i, qnotA mr mi = (r, i, 0) → sameB r i r i = true) := by
  obtain ⟨h1, h2⟩ := both_ok em
  obtain ⟨e1, e2, z1, l1⟩ := z5_of h1
  obtain ⟨e3, e4, z2, l2⟩ := z5_of h2
  obtain ⟨A, ha, hqa⟩ := op_eq bitOp_and h1 h2
  obtain ⟨O, ho, hqo⟩ := op_eq bitOp_or h1 h2
  obtain ⟨E, hx, hqe⟩ := op_eq bitOp_xor h1 h2
  rw [hqa] at em
  rw [hqo] at ed
  rw [hqe] at es
  obtain ⟨m1, m2, zA⟩ := z5_fit em
  obtain ⟨d1, d2, zO⟩ := z5_fit ed
  obtain ⟨s1, s2, zE⟩ := z5_fit es
  generalize iv ra = X at *
  generalize iv rb = Y at *
  have q0 : qw 0 ≤ 512 := by rw [qw_zero]; omega
  have hsum := and_or_sum ha ho
  have hdif := or_and_diff ha ho hx
  have sR : ∀ {Z : Int}, Z5 Z → sameB (rwq ((Z : Int) : Rat)) (rwq 0) (rwq ((Z : Int) : Rat)) (rwq 0) = true := fun h => sameB_self (nB_rwq h q0)
  have nN : ∀ {Z : Int}, Z5 Z → qnotA (rwq ((Z : Int) : Rat)) (rwq 0) = fitQ (((-Z - 1 : Int)) : Rat) 0 := fun {Z} h => by
    obtain ⟨w1, w2⟩ := z5_w h
    unfold qnotA
    rw [if_pos (bchk1_of w1), w2]
  subst e1 e2 e3 e4 m1 m2 d1 d2 s1 s2
  refine ⟨?_, ?_, sR zE, sR z1, ?_, ?_, ?_⟩
  · rw [qaddA_q zA q0 zO q0, qaddA_q z1 q0 z2 q0, ← Rat.intCast_add, ← Rat.intCast_add, hsum]
  · rw [qsubA_q zO q0 zA q0, ← Rat.intCast_neg, ← Rat.intCast_add, show O + -A = E by omega, show (0 : Rat) + -0 = 0 by rw [Rat.neg_zero, Rat.add_zero]]
    exact fitQ_ok zE q0
  · intro lr li h
    rw [qaddA_q z1 q0 z2 q0, ← Rat.intCast_add, show (0 : Rat) + 0 = 0 from Rat.add_zero 0] at h
    obtain ⟨a1, a2, a3⟩ := z5_fit h
    rw [a1, a2]
    exact sR a3
  · intro nar nai nbr nbi ha1 hb1
    rw [nN z1] at ha1
    rw [nN z2] at hb1
    obtain ⟨a1, a2, a3⟩ := z5_fit ha1
    obtain ⟨b1, b2, b3⟩ := z5_fit hb1
    rw [a1, a2, b1, b2]
    refine ⟨?_, ?_⟩
    · rw [nN a3, show -(-X - 1) - 1 = X by omega]
      exact fitQ_ok z1 q0
    · obtain ⟨w1, v1⟩ := z5_w a3
      obtain ⟨w2, v2⟩ := z5_w b3
      obtain ⟨Z, hz, hq⟩ := op_eq bitOp_or w1 w2
      rw [v1, v2] at hz
      rw [hq, nN zA, not_exchanges ha hz]
  · intro r i h
    rw [nN zA] at h
    obtain ⟨a1, a2, a3⟩ := z5_fit h
    rw [a1, a2]
    exact sR a3
end Go.Proofs.YtbgggepdlkbpoaaGreatDoor
namespace Go.Proofs.YtbgggepdlkbpoaaGreatDoor
open Go.RowKit

/-- a slice (its address, its capacity) reads as the list l, and lies below block B; f: an element's cell -/
def RM {α : Type} (f : α → Value) (w : World) (B : Nat) (A : Option Addr) (c : Nat) (l : List α) : Prop :=
  l.length ≤ c ∧ l.length ≤ 140737488351232 ∧
  (0 < l.length → ∃ b off, A = some ⟨b, off, none⟩ ∧ b < B ∧ ∀ k x, l[k]? = some x → w.cell? ⟨b, off + k, none⟩ = some (f x))

/-- a slice of the call's own (blocks from base on) that holds the list l; e: the element's type -/
def OM (e : TypeId) {α : Type} (f : α → Value) (w : World) (base : Nat) (A : Option Addr) (c : Nat) (l : List α) : Prop :=
  w.ownsRow base e 1 (.slice A l.length c) l.length (l.map f) ∧ l.length ≤ 140737488351232

section
variable {α : Type} {f : α → Value} {e : TypeId} {w w' : World} {B B' base : Nat} {A : Option Addr} {c : Nat} {l : List α}
theorem RM.lc (h : RM f w B A c l) : l.length ≤ c := h.1
theorem RM.big (h : RM f w B A c l) : l.length ≤ 140737488351232 := h.2.1
theorem RM.nil (f : α → Value) (w : World) (B : Nat) (A : Option Addr) (c : Nat) : RM f w B A c [] := ⟨by simp, by simp, fun h => by simp at h⟩
theorem RM.below (h : RM f w B A c l) (hb : Below B w w') : RM f w' B A c l :=
  ⟨h.1, h.2.1, fun hn => by
    obtain ⟨b, off, e, hlt, hc⟩ := h.2.2 hn
    exact ⟨b, off, e, hlt, fun k x hk => (hb.cell (p := ⟨b, off + k, none⟩) hlt).trans (hc k x hk)⟩⟩
theorem RM.more (h : RM f w B A c l) (hB : B ≤ B') : RM f w B' A c l :=
  ⟨h.1, h.2.1, fun hn => by
    obtain ⟨b, off, e, hlt, hc⟩ := h.2.2 hn
    exact ⟨b, off, e, by omega, hc⟩⟩
theorem RM.step (h : RM f w B A c l) (hb : Below B w w') (hB : B ≤ B') : RM f w' B' A c l := (h.below hb).more hB
theorem RM.drewN (h : RM f w B A c l) (k : Nat) : RM f (w.drewN k) B A c l := h
theorem RM.take (h : RM f w B A c l) (k : Nat) : RM f w B A c (l.take k) := by
  refine ⟨by have := h.1; rw [List.length_take]; omega, by have := h.2.1; rw [List.length_take]; omega, fun hn => ?_⟩
  rw [List.length_take] at hn
  obtain ⟨b, off, e, hlt, hc⟩ := h.2.2 (by omega)
  refine ⟨b, off, e, hlt, fun j x hj => ?_⟩
  rw [List.getElem?_take] at hj
  split at hj
  · exact hc j x hj
  · cases hj
theorem RM.at_ (h : RM f w B A c l) (hn : 0 < l.length) : ∃ b off, A = some ⟨b, off, none⟩ ∧ b < B ∧ ∀ k x, l[k]? = some x → w.cell? ⟨b, off + k, none⟩ = some (f x) := h.2.2 hn

theorem OM.big (h : OM e f w base A c l) : l.length ≤ 140737488351232 := h.2
theorem OM.nil (e : TypeId) (f : α → Value) (w : World) (base : Nat) : OM e f w base none 0 ([] : List α) := ⟨by simpa using World.ownsRow_nil w base e 1, by simp⟩
theorem OM.form (h : OM e f w base A c l) : (A = none ∧ c = 0 ∧ l = []) ∨ ∃ g, A = some ⟨g, 0, none⟩ ∧ base ≤ g ∧ g < w.heap.size ∧ l.length ≤ c := by
  rcases h.1.2 with ⟨e, h0⟩ | ⟨g, cap, cur, e, hb, hh, hn, _⟩
  · simp only [Value.slice.injEq] at e
    exact .inl ⟨e.1, e.2.2, List.eq_nil_of_length_eq_zero h0⟩
  · simp only [Value.slice.injEq] at e
    obtain ⟨e1, e2, e3⟩ := e
    subst e3
    exact .inr ⟨g, e1, hb, (Array.getElem?_eq_some_iff.1 hh).1, hn⟩
theorem OM.lc (h : OM e f w base A c l) : l.length ≤ c := by
  rcases h.form with ⟨_, _, rfl⟩ | ⟨g, _, _, _, h⟩
  · simp
  · exact h
theorem OM.cell {g : Nat} (h : OM e f w base (some ⟨g, 0, none⟩) c l) {k : Nat} {x : α} (hk : l[k]? = some x) : w.cell? ⟨g, k, none⟩ = some (f x) := by
  have hlt : k < l.length := (List.getElem?_eq_some_iff.1 hk).1
  rw [h.1.cellAt k (by omega), List.getElem?_map, hk]; rfl
theorem OM.rl (h : OM e f w base A c l) : RM f w w.heap.size A c l := by
  refine ⟨h.lc, h.big, fun hn => ?_⟩
  rcases h.form with ⟨_, _, rfl⟩ | ⟨g, rfl, hb, hlt, _⟩
  · simp at hn
  · refine ⟨g, 0, rfl, hlt, fun k x hk => ?_⟩
    rw [Nat.zero_add]
    exact h.cell hk
theorem OM.base_le (h : OM e f w base A c l) (hb : B ≤ base) : OM e f w B A c l := by
  refine ⟨⟨h.1.1, ?_⟩, h.2⟩
  rcases h.1.2 with h2 | ⟨g, cap, cur, a, b, r⟩
  · exact .inl h2
  · exact .inr ⟨g, cap, cur, a, by omega, r⟩
theorem OM.kept (h : OM e f w base A c l) (hk : ∀ g, A = some ⟨g, 0, none⟩ → w'.heap[g]? = w.heap[g]?) : OM e f w' base A c l := by
  refine ⟨⟨h.1.1, ?_⟩, h.2⟩
  rcases h.1.2 with h2 | ⟨g, cap, cur, a, b, hh, r⟩
  · exact .inl h2
  · have ha : A = some ⟨g, 0, none⟩ := by simp only [Value.slice.injEq] at a; exact a.1
    exact .inr ⟨g, cap, cur, a, b, by rw [hk g ha]; exact hh, r⟩
theorem OM.lt {g : Nat} (h : OM e f w base (some ⟨g, 0, none⟩) c l) : base ≤ g ∧ g < w.heap.size := by
  rcases h.form with ⟨e, _⟩ | ⟨g', e, h1, h2, _⟩
  · cases e
  · simp only [Option.some.injEq, Addr.mk.injEq, and_true] at e
    subst e
    exact ⟨h1, h2⟩
theorem OM.below (h : OM e f w base A c l) (hb : Below B w w') (hB : w.heap.size ≤ B) : OM e f w' base A c l :=
  h.kept fun g hg => hb.block g (by subst hg; have := h.lt; omega)
theorem OM.grown {row : Option Nat} (h : OM e f w base A c l) (hg : w.grownBy w' row) (hne : ∀ g, A = some ⟨g, 0, none⟩ → row ≠ some g) : OM e f w' base A c l :=
  h.kept fun g ha => hg.block g (by subst ha; exact h.lt.2) (fun he => hne g ha he.symm)
theorem OM.alloc (h : OM e f w base A c l) (o : Obj) : OM e f (w.alloc o) base A c l := ⟨h.1.alloc o, h.2⟩
theorem OM.drew (h : OM e f w base A c l) : OM e f w.drew base A c l := h
theorem OM.drewN (h : OM e f w base A c l) (k : Nat) : OM e f (w.drewN k) base A c l := h
theorem OM.take (h : OM e f w base A c l) (k : Nat) : OM e f w base A c (l.take k) := by
  have hl : (l.take k).length = min k l.length := List.length_take
  refine ⟨⟨by rw [List.length_map]; omega, ?_⟩, by have := h.big; omega⟩
  rcases h.1.2 with ⟨e, h0⟩ | ⟨g, cap, cur, a, b, hh, hn, hcm, hcs, ht⟩
  · simp only [Value.slice.injEq] at e
    left
    refine ⟨?_, by omega⟩
    rw [e.1, e.2.2]; congr 1; omega
  · simp only [Value.slice.injEq] at a
    refine .inr ⟨g, cap, cur, by rw [a.1, a.2.2], b, hh, by omega, hcm, hcs, ?_⟩
    rw [List.map_take, ← ht, List.take_take]
    congr 1
    omega
theorem OM.frozen {g : Nat} (h : OM e f w base (some ⟨g, 0, none⟩) c l) (k : Nat) : w.frozen? ⟨g, k, none⟩ = false := h.1.frozenAt k
theorem OM.set {g : Nat} (h : OM e f w base (some ⟨g, 0, none⟩) c l) (k : Nat) (x : α) :
    OM e f (w.setCell ⟨g, k, none⟩ (f x)) base (some ⟨g, 0, none⟩) c (l.set k x) := by
  have h1 := (h.1.stored k (f x)).1
  refine ⟨?_, by rw [List.length_set]; exact h.big⟩
  rw [List.map_set, List.length_set]
  exact h1
theorem OM.far (h : OM e f w base A c l) {p : Addr} (hp : ∀ g, A = some ⟨g, 0, none⟩ → g ≠ p.block) (u : Value) : OM e f (w.setCell p u) base A c l :=
  h.kept fun g hg => Below.heap_setCell _ _ _ _ (hp g hg)
end

theorem bdNT {B : Nat} {a w : World} (h : Below B a w) (n : Nat) : Below B a (w.drewN n) := h.trans ⟨rfl, rfl, rfl, Nat.le_refl _, fun _ _ => rfl⟩
theorem quiet_leftT {P : Program} {f : FuncId} {args : Array Value} {w : World} {n : Nat} {v : Value}
    (h : Calls P f args (w.drewN n) fun e w' => e = .returned v ∧ w.drewN n = w') : Calls P f args (w.drewN n) fun e w'' => e = .returned v ∧ ∃ m, w'' = w.drewN m :=
  h.mono fun _ _ ⟨he, hm⟩ => ⟨he, n, hm.symm⟩
theorem quiet_someT {P : Program} {f : FuncId} {args : Array Value} {w : World} {n : Nat} {v : Value}
    (h : Calls P f args (w.drewN n) fun e w' => e = .returned v ∧ ∃ m, w' = (w.drewN n).drewN m) : Calls P f args (w.drewN n) fun e w'' => e = .returned v ∧ ∃ m, w'' = w.drewN m :=
  h.mono fun _ _ ⟨he, m, hm⟩ => ⟨he, n + m, by rw [hm, World.drewN_drewN]⟩

/-- make([]T, n), an element's cells one -/
theorem wp_makeT {P : Program} (w : World) {ops : Array Oper} {rest : List Oper} {o : Oper} {a : Act} {Q : Exit → Act → World → Prop}
    (T e : TypeId) {α : Type} (f : α → Value) (x0 : α) (by_ : Nat) (hu : P.underlying T = some (.slice e)) (hi : (P.info? e).map (fun i => (i.zero, i.size, i.bytes)) = some (some (f x0), 1, by_)) (h1 : (f x0).cells = #[f x0])
    (hg : o.guard = none) (x c : Operand) (hop : o.op = Op.makeSlice T x c)
    (kl kc : IntKind) (L C : Int) (n : Nat) (hl : a.eval x = .int kl L) (hc : a.eval c = .int kc C) (hL : L = (n : Int)) (hC : C = (n : Int)) (hn : n ≤ 140737488351232) (hby : by_ * n ≤ 281474976710656)
    (hK : ∀ w', OM e f w' w.heap.size (some ⟨w.heap.size, 0, none⟩) n (List.replicate n x0) → w.grownBy w' none → w.heap.size + 1 ≤ w'.heap.size → wpList P ops Q rest (a.put o.dst (.slice (some ⟨w.heap.size, 0, none⟩) n n)) w') :
    wpList P ops Q (o :: rest) a w := by
  obtain ⟨i, hi, h0, hi1, h2⟩ := info_parts hi
  refine wpList_make_full w hg x c T hop w.heap.size e i (f x0) 1 hu hi h0 hi1 kl kc L C n hl hc hL hC (by rw [h2]; exact hby) (by unfold maxLen; omega) (Nat.le_refl _) ?_
  intro w' hown hgr
  have e2 : (madeCells (f x0).cells (n * 1)).toList = (List.replicate n x0).map f := by
    rw [h1, Nat.mul_one]
    simp only [madeCells]
    apply List.ext_getElem
    · simp
    · intro k hk1 hk2
      simp [Nat.mod_one]
  rw [e2] at hown
  have hO : OM e f w' w.heap.size (some ⟨w.heap.size, 0, none⟩) n (List.replicate n x0) := ⟨by simpa using hown, by simpa using hn⟩
  exact hK w' hO hgr hO.lt.2

theorem run_append_nilT {P : Program} (w : World) {base : Nat} {T ty e : TypeId} {i : TypeInfo} (ht : P.underlying T = some (.slice e)) (hi : P.info? e = some i)
    {v : Value} {n : Nat} {xs : List Value} (hown : w.ownsRow base e 1 v n xs) (ad : Option Addr) (d : Nat) : (Builtin.append_ #[T, T] ty #[v, .slice ad 0 d]).run P w = .ok v w := by
  cases ad with
  | none =>
    rcases hown.2 with ⟨rfl, rfl⟩ | ⟨g, cap, cur, rfl, _, _, hnc, _⟩
    · simp [Builtin.append_, run_underlying ht, sizeOf, typeInfo, hi, Builtin.lenOf, Builtin.firstCells]
    · simp [Builtin.append_, run_underlying ht, sizeOf, typeInfo, hi, Builtin.lenOf, Builtin.firstCells, hnc, storeCells]
  | some ad =>
    rcases hown.2 with ⟨rfl, rfl⟩ | ⟨g, cap, cur, rfl, _, _, hnc, _⟩
    · simp [Builtin.append_, run_underlying ht, sizeOf, typeInfo, hi, Builtin.lenOf, Builtin.firstCells, loadCells, loadCellsFrom]
    · simp [Builtin.append_, run_underlying ht, sizeOf, typeInfo, hi, Builtin.lenOf, Builtin.firstCells, hnc, storeCells, loadCells, loadCellsFrom]

/-- append(v, r...): behind a row of the call's own (nil too) -/
theorem wp_appT {P : Program} (w : World) {ops : Array Oper} {rest : List Oper} {o : Oper} {a : Act} {Q : Exit → Act → World → Prop}
    (T e : TypeId) {α : Type} (f : α → Value) (x0 : α) (by_ : Nat) (hu : P.underlying T = some (.slice e)) (hi : (P.info? e).map (fun i => (i.zero, i.size, i.bytes)) = some (some (f x0), 1, by_)) (h1 : ∀ x, (f x).cells = #[f x] ∧ (f x).oneCell' = true)
    (hg : o.guard = none) (s x : Operand) (hop : o.op = Op.call { callee := Callee.builtin Builtin.append, args := #[s, x], argTypes := #[T, T] })
    (base : Nat) (A : Option Addr) (c n : Nat) (l : List α) (hs : a.eval s = .slice A n c) (hn : n = l.length) (hown : OM e f w base A c l)
    (D : Option Addr) (d m : Nat) (r : List α) (hx : a.eval x = .slice D m d) (hm : m = r.length) (Br : Nat) (hr : RM f w Br D d r)
    (hlen : l.length + r.length ≤ 140737488351232) (hby : (l.length + r.length) * by_ ≤ 140737488355328) (hbase : base ≤ w.heap.size)
    (hK : ∀ A' c' w', OM e f w' base A' c' (l ++ r) → w.grownBy w' (Value.slice A n c).ownBlock → (∀ g, A' = some ⟨g, 0, none⟩ → g < w.heap.size → A = some ⟨g, 0, none⟩) →
      wpList P ops Q rest (a.put o.dst (.slice A' (l ++ r).length c')) w') :
    wpList P ops Q (o :: rest) a w := by
  obtain ⟨i, hi, h0, hi1, h2⟩ := info_parts hi
  subst hn hm
  refine wpList_plain hg fun K hK' => ?_
  have key : ∃ v' w', (Builtin.append_ #[T, T] o.type #[.slice A l.length c, .slice D r.length d]).run P w = .ok v' w' ∧ w'.ownsRow base e 1 v' (l.length + r.length) (l.map f ++ r.map f) ∧ w.grownBy w' (Value.slice A l.length c).ownBlock ∧ (v'.ownBlock = (Value.slice A l.length c).ownBlock ∨ v'.ownBlock = some w.heap.size) := by
    by_cases hr0 : r.length = 0
    · have hrn : r = [] := List.eq_nil_of_length_eq_zero hr0
      subst hrn
      exact ⟨_, w, run_append_nilT w hu hi hown.1 D d, by simpa using hown.1, World.grownBy.refl w _, .inl rfl⟩
    · obtain ⟨b, off, rfl, _, hc⟩ := hr.2.2 (by omega)
      obtain ⟨v', w', hrun, q1, q2, _, q4⟩ := run_append_own_at (P := P) w base T o.type e i (f x0) 1 by_ hu hi h0 hi1 h2 (by rw [(h1 x0).1]; rfl) (by omega) (.slice A l.length c) l.length (l.map f) hown.1 ⟨b, off, none⟩ r.length d (r.map f) (by simp)
        (by
          intro j u hj
          rw [List.getElem?_map] at hj
          obtain ⟨y, hy, rfl⟩ := Option.map_eq_some_iff.1 hj
          rw [Addr.add_lit]
          exact hc j y hy)
        (by
          intro u hu
          obtain ⟨y, _, rfl⟩ := List.mem_map.1 hu
          exact (h1 y).2)
        (by unfold maxLen; omega) hby hbase
      exact ⟨v', w', hrun, q1, q2, q4⟩
  obtain ⟨v', w', hrun, q1, q2, q4⟩ := key
  unfold Oper.wp execOp
  simp only [hop, resolve, invoke, builtin, Sem.run_bind, Sem.run_pure, Result.andThen_ok, List.map_toArray, List.map_cons, List.map_nil, hs, hx, hrun]
  have hlen2 : (l ++ r).length = l.length + r.length := List.length_append
  rcases q1.2 with ⟨rfl, hz⟩ | ⟨g, cap, cur, rfl, a1, a2, a3, a4, a5, a6⟩
  · have hO : OM e f w' base none 0 (l ++ r) := ⟨by rw [hlen2, List.map_append, hz]; rw [hz] at q1; exact q1, by omega⟩
    have := hK none 0 w' hO q2 (by intro g hg; cases hg)
    rw [hlen2, hz] at this
    exact hK' _ _ this
  · have hO : OM e f w' base (some ⟨g, 0, none⟩) cap (l ++ r) := ⟨by rw [hlen2, List.map_append]; exact q1, by omega⟩
    have := hK (some ⟨g, 0, none⟩) cap w' hO q2 (by
      intro g' hg' hlt
      simp only [Option.some.injEq, Addr.mk.injEq, and_true] at hg'
      subst hg'
      rcases q4 with q | q
      · rcases hown.form with ⟨rfl, _⟩ | ⟨g2, rfl, _⟩
        · simp [Value.ownBlock] at q
        · simp [Value.ownBlock] at q; subst q; rfl
      · simp [Value.ownBlock] at q; omega)
    rw [hlen2] at this
    exact hK' _ _ this
end Go.Proofs.YtbgggepdlkbpoaaGreatDoor
namespace Go.Proofs.YtbgggepdlkbpoaaGreatDoor
open Go.RowKit

/-- a byte's cell -/
def f8T (x : UInt8) : Value := .int .u8 (x.toNat : Int)
def RBT (w : World) (B : Nat) (A : Option Addr) (c : Nat) (l : List UInt8) : Prop := RM f8T w B A c l
def OBT (w : World) (base : Nat) (A : Option Addr) (c : Nat) (l : List UInt8) : Prop := OM 5 f8T w base A c l
theorem infoBT : (Tryz.prog.info? 5).map (fun i => (i.zero, i.size, i.bytes)) = some (some (f8T 0), 1, 1) := by kernel_rfl
theorem b_getT? {l : List UInt8} {k : Nat} (h : k < l.length) : l[k]? = some (l.getD k 0) := by rw [List.getElem?_eq_getElem h, List.getD_eq_getElem?_getD, List.getElem?_eq_getElem h]; rfl

theorem wp_appBT (w : World) {ops : Array Oper} {rest : List Oper} {o : Oper} {a : Act} {Q : Exit → Act → World → Prop}
    (hg : o.guard = none) (s x : Operand) (hop : o.op = Op.call { callee := Callee.builtin Builtin.append, args := #[s, x], argTypes := #[31, 31] })
    (base : Nat) (A : Option Addr) (c n : Nat) (l : List UInt8) (hs : a.eval s = .slice A n c) (hn : n = l.length) (hown : OBT w base A c l)
    (D : Option Addr) (d m : Nat) (r : List UInt8) (hx : a.eval x = .slice D m d) (hm : m = r.length) (Br : Nat) (hr : RBT w Br D d r)
    (hlen : l.length + r.length ≤ 140737488351232) (hbase : base ≤ w.heap.size)
    (hK : ∀ A' c' w', OBT w' base A' c' (l ++ r) → w.grownBy w' (Value.slice A n c).ownBlock → Below base w w' → wpList Tryz.prog ops Q rest (a.put o.dst (.slice A' (l ++ r).length c')) w') :
    wpList Tryz.prog ops Q (o :: rest) a w :=
  wp_appT w 31 5 f8T 0 1 Tryz.underlying31 infoBT (fun _ => ⟨rfl, rfl⟩) hg s x hop base A c n l hs hn hown D d m r hx hm Br hr hlen (by omega) hbase
    fun A' c' w' h1 h2 _ => hK A' c' w' h1 h2 ((Below.refl _ _).grown h2 hbase (by
      intro k hk
      rcases OM.form hown with ⟨rfl, _⟩ | ⟨g, rfl, hb, _⟩
      · simp [Value.ownBlock] at hk
      · simp [Value.ownBlock] at hk; omega))
/-- one byte in a new block, as append's source -/
theorem RBT.one (w : World) (t : TypeId) (x : UInt8) : RBT (w.alloc (.cells #[.int .u8 (x.toNat : Int)] t)) (w.heap.size + 1) (some ⟨w.heap.size, 0, none⟩) 1 [x] := by
  refine ⟨by simp, by simp, fun _ => ⟨_, _, rfl, by omega, fun k y hk => ?_⟩⟩
  match k, hk with
  | 0, hk => simp at hk; subst hk; have := cell_one_new w (.int .u8 (x.toNat : Int)) t 0 _ rfl; rwa [Addr.add_lit] at this
theorem OBT.empty (w : World) : OBT (w.alloc (.cells #[] 5)) w.heap.size (some ⟨w.heap.size, 0, none⟩) 0 [] := by
  refine ⟨?_, by simp⟩
  have h := World.ownsRow_lit (e := 5) (size := 1) w #[] 0 (Nat.le_refl _) (by unfold maxLen; omega) (by simp)
  simpa using h
/-- string(b) -/
theorem conv_bytesT {w : World} {B : Nat} {A : Option Addr} {c : Nat} {l : List UInt8} (h : RBT w B A c l) (hA : ∃ b off, A = some ⟨b, off, none⟩) :
    (convert 31 9 (.slice A l.length c)).run Tryz.prog w = .ok (.string ⟨l.toArray⟩) w := by
  obtain ⟨b, off, rfl⟩ := hA
  refine run_convert_bytes_back w 31 9 5 ⟨b, off, none⟩ c l Tryz.underlying31 Tryz.underlying5 Tryz.underlying9 fun j hj => ?_
  obtain ⟨b', off', e, _, hc⟩ := h.at_ (by omega)
  simp only [Option.some.injEq, Addr.mk.injEq, and_true] at e
  obtain ⟨rfl, rfl⟩ := e
  rw [Addr.add_lit]
  exact hc j _ (List.getElem?_eq_getElem hj)

/-- how long a slice is -/
def slenT : Value → Nat | .slice _ n _ => n | _ => 0

def bgT (l : List UInt8) (k : Nat) : UInt8 := l.getD k 0
theorem bg_getT? {l : List UInt8} {k : Nat} (h : k < l.length) : l[k]? = some (bgT l k) := b_getT? h
theorem bg_set_eqT {l : List UInt8} {k : Nat} (x : UInt8) (h : k < l.length) : bgT (l.set k x) k = x := by
  unfold bgT; simp [List.getD_eq_getElem?_getD, h]
theorem bg_set_neT {l : List UInt8} {k j : Nat} (x : UInt8) (h : k ≠ j) : bgT (l.set k x) j = bgT l j := by
  unfold bgT; simp [List.getD_eq_getElem?_getD, h]
theorem bg_extT {a b : List UInt8} (hl : a.length = b.length) (h : ∀ k, k < a.length → bgT a k = bgT b k) : a = b := by
  refine List.ext_getElem? fun k => ?_
  by_cases hk : k < a.length
  · rw [bg_getT? hk, bg_getT? (by omega), h k hk]
  · rw [List.getElem?_eq_none (by omega), List.getElem?_eq_none (by omega)]
theorem bg_revT {l : List UInt8} {k : Nat} (h : k < l.length) : bgT l.reverse k = bgT l (l.length - 1 - k) := by
  have h1 := bg_getT? (l := l.reverse) (k := k) (by rw [List.length_reverse]; exact h)
  rw [List.getElem?_reverse h, bg_getT? (by omega)] at h1
  exact (Option.some.inj h1).symm
/-- turned round as far as k places from both ends -/
def RvdT (o l : List UInt8) (k : Nat) : Prop :=
  l.length = o.length ∧ ∀ t, t < o.length → bgT l t = if t < k ∨ o.length ≤ t + k then bgT o (o.length - 1 - t) else bgT o t
theorem Rvd_stepT {o l : List UInt8} {k j : Nat} (h : RvdT o l k) (hj : j = o.length - 1 - k) (hk : k < j) : RvdT o ((l.set k (bgT l j)).set j (bgT l k)) (k + 1) := by
  refine ⟨by rw [List.length_set, List.length_set]; exact h.1, fun t ht => ?_⟩
  have hl := h.1
  by_cases h1 : j = t
  · subst h1
    rw [bg_set_eqT _ (by rw [List.length_set]; omega), h.2 k (by omega), if_neg (by omega), if_pos (by omega)]
    congr 1; omega
  · rw [bg_set_neT _ h1]
    by_cases h2 : k = t
    · subst h2
      rw [bg_set_eqT _ (by omega), h.2 j (by omega), if_neg (by omega), if_pos (by omega)]
      congr 1
    · rw [bg_set_neT _ h2, h.2 t ht]
      by_cases h3 : t < k ∨ o.length ≤ t + k
      · rw [if_pos h3, if_pos (by omega)]
      · rw [if_neg h3, if_neg (by omega)]
theorem Rvd_endT {o l : List UInt8} {k : Nat} (h : RvdT o l k) (hk : ¬ ((k : Int) < (o.length : Int) - 1 - k)) : l = o.reverse := by
  refine bg_extT (by rw [List.length_reverse]; exact h.1) fun t ht => ?_
  have hl := h.1
  rw [bg_revT (by omega), h.2 t (by omega)]
  split
  · rfl
  · congr 1; omega
set_option maxHeartbeats 1000000 in
theorem reverse_anyT (A : Option Addr) (c n : Nat) (o : List UInt8) (w : World) (base : Nat) (hn : n = o.length) (h : OBT w base A c o) :
    Calls Tryz.prog 22 #[.slice A n c] w fun e w' => e = .returned (.tuple #[]) ∧ OBT w' base A c o.reverse ∧ Below base w w' := by
  subst hn
  have hbig := OM.big h
  go_enter Tryz.func22, Tryz.ntmps22
  go_wp2
  go_loopw [2, 3] (fun iv jv wr => ∃ (k : Nat) (l : List UInt8), iv = .int .i64 (k : Int) ∧ jv = .int .i64 ((o.length : Int) - 1 - k) ∧ k ≤ o.length ∧ OBT wr base A c l ∧ Hid (RvdT o l k) ∧ Below base w wr) (fun iv _ _ => (o.length - intOf iv).toNat)
  case atStart => exact ⟨0, o, rfl, by simp, Nat.zero_le _, h, ⟨rfl, fun t ht => by rw [if_neg (by omega)]⟩, Below.refl _ _⟩
  case round =>
    obtain ⟨k, l, rfl, rfl, hk, hO, hR, hbel⟩ := hrel
    by_cases h0 : (k : Int) < (o.length : Int) - 1 - k
    · have hl := hR.out.1
      have HL := Lib.hid hl
      rcases OM.form hO with ⟨_, _, he⟩ | ⟨g, rfl, hg1, hg2, _⟩
      · rw [he] at hl; simp at hl; omega
      · obtain ⟨j, hj⟩ : ∃ j, j = o.length - 1 - k := ⟨_, rfl⟩
        have e0 : (o.length : Int) - 1 - (k : Int) = (j : Int) := by omega
        have hkj : k < j := by omega
        have hjl : j < o.length := by omega
        have hck := OM.cell hO (bg_getT? (l := l) (k := k) (by omega))
        have hcj := OM.cell hO (bg_getT? (l := l) (k := j) (by omega))
        have hfk := OM.frozen hO k
        have hfj := OM.frozen hO j
        have hst := Lib.hid (Rvd_stepT hR.out hj hkj)
        have hset := OM.set (OM.set hO k (bgT l j)) j (bgT l k)
        have hbel2 := (hbel.setCell (p := ⟨g, k, none⟩) hg1 (f8T (bgT l j))).setCell (p := ⟨g, j, none⟩) hg1 (f8T (bgT l k))
        have HJ := Lib.hid hj
        have E0 := Lib.hid e0
        clear hl hj
        simp only [f8T] at hck hcj
        go_wp2
        go_region
        go_wp2
        go_roundw
        case rel => exact ⟨k + 1, _, by go_num, by go_num, by omega, hset, hst, Below.drew hbel2⟩
        case measure => simp [intOf]; omega
    · have hfin := Lib.hid (Rvd_endT hR.out h0)
      go_wp2
      go_end0
      refine ⟨rfl, ?_, hbel⟩
      rw [← hfin.out]; exact hO
end Go.Proofs.YtbgggepdlkbpoaaGreatDoor
namespace Go.Proofs.YtbgggepdlkbpoaaGreatDoor

def lv : List UInt8 → Nat
  | [] => 0
  | x :: l => x.toNat + 256 * lv l
theorem lv_lt : ∀ l : List UInt8, lv l < 256 ^ l.length
  | [] => by simp [lv]
  | x :: l => by
    have h1 := lv_lt l
    have h2 := x.toNat_lt
    simp only [lv, List.length_cons, Nat.pow_succ]
    omega
theorem lv_append : ∀ a b : List UInt8, lv (a ++ b) = lv a + 256 ^ a.length * lv b
  | [], b => by simp [lv]
  | x :: a, b => by
    simp only [List.cons_append, lv, List.length_cons, lv_append a b, Nat.pow_succ]
    rw [Nat.mul_add, Nat.mul_comm (256 ^ a.length) 256, ← Nat.mul_assoc, Nat.add_assoc]
theorem take_bg {l : List UInt8} {k : Nat} (h : k < l.length) : l.take (k + 1) = l.take k ++ [bgT l k] := by
  rw [List.take_add_one, bg_getT? h]; rfl
theorem lv_take_succ {l : List UInt8} {k : Nat} (h : k < l.length) : lv (l.take (k + 1)) = lv (l.take k) + 256 ^ k * (bgT l k).toNat := by
  rw [take_bg h, lv_append, List.length_take, Nat.min_eq_left (by omega)]
  simp [lv]
theorem pow8 (k : Nat) : 256 ^ k = 2 ^ (8 * k) := by rw [Nat.pow_mul]
theorem pow_parts (k : Nat) : 256 ^ k = 2 ^ (8 * (k % 4)) * Wp (k / 4) := by
  rw [pow8, Wp_eq, ← Nat.pow_add]; congr 1; omega
theorem wd_low {o : List Nat} (hb : B32 o) {k : Nat} (h : val o < 256 ^ k) : wd o (k / 4) < 2 ^ (8 * (k % 4)) := by
  rw [wd_val hb]
  refine Nat.lt_of_le_of_lt (Nat.mod_le _ _) ?_
  rw [Nat.div_lt_iff_lt_mul (Wp_pos _), ← pow_parts]; exact h
theorem shlo_byte {x : Nat} (hx : x < 256) (k : Nat) : shlo x (8 * (k % 4)) = x * 2 ^ (8 * (k % 4)) := by
  unfold shlo
  refine Nat.mod_eq_of_lt ?_
  have h4 : k % 4 < 4 := Nat.mod_lt _ (by omega)
  have : 2 ^ (8 * (k % 4)) ≤ 2 ^ 24 := Nat.pow_le_pow_right (by omega) (by omega)
  have h3 : x * 2 ^ (8 * (k % 4)) ≤ 255 * 2 ^ 24 := Nat.mul_le_mul (by omega) this
  omega
theorem put_step {o : List Nat} {l : List UInt8} {k : Nat} (hk : k < l.length) (ho : k / 4 < o.length) (h : val o = lv (l.take k)) :
    val (o.set (k / 4) (wd o (k / 4) + shlo (bgT l k).toNat (8 * (k % 4)))) = lv (l.take (k + 1)) := by
  have h1 := val_set (o := o) (wd o (k / 4) + shlo (bgT l k).toNat (8 * (k % 4))) ho
  rw [lv_take_succ hk, ← h, pow_parts]
  rw [shlo_byte (bgT l k).toNat_lt] at h1 ⊢
  rw [Nat.add_mul] at h1
  have e : 2 ^ (8 * (k % 4)) * Wp (k / 4) * (bgT l k).toNat = (bgT l k).toNat * 2 ^ (8 * (k % 4)) * Wp (k / 4) := by
    rw [Nat.mul_comm _ (bgT l k).toNat, Nat.mul_assoc]
  rw [e]
  omega
/-- the highest bit -/
theorem lv_last {l : List UInt8} {n : Nat} (hl : l.length = n + 1) : lv l = lv (l.take n) + 256 ^ n * (bgT l n).toNat := by
  have := lv_take_succ (l := l) (k := n) (by omega)
  rw [List.take_of_length_le (by omega)] at this
  exact this
theorem lv_high {l : List UInt8} {n : Nat} (hl : l.length = n + 1) : 128 ≤ (bgT l n).toNat ↔ 128 * 256 ^ n ≤ lv l := by
  rw [lv_last hl]
  have h1 := lv_lt (l.take n)
  rw [List.length_take, Nat.min_eq_left (by omega)] at h1
  have h2 := (bgT l n).toNat_lt
  generalize lv (l.take n) = a at *
  generalize 256 ^ n = p at *
  generalize (bgT l n).toNat = x at *
  constructor
  · intro h
    have := Nat.mul_le_mul_left p h
    rw [Nat.mul_comm p 128] at this
    omega
  · intro h
    rcases Nat.lt_or_ge x 128 with hx | hx
    · have := Nat.mul_le_mul_left p (Nat.succ_le_of_lt hx)
      rw [Nat.succ_eq_add_one, Nat.mul_add, Nat.mul_one, Nat.mul_comm p 128] at this
      omega
    · exact hx
end Go.Proofs.YtbgggepdlkbpoaaGreatDoor
