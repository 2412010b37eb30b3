/- Merged texts: StepW, BiL, BiM, PlainY. -/
import Derived.Test.YtbgggepdlkbpoaaGreatDoorGN
import Derived.Test.YtbgggepdlkbpoaaGreatDoorGA
import Derived.Test.YtbgggepdlkbpoaaGreatDoorGL
import Derived.Test.YtbgggepdlkbpoaaGreatDoorGK
namespace Go.Proofs.YtbgggepdlkbpoaaGreatDoor
open Go.RowKit

theorem step_appW (w : World) {ops : Array Oper} {o : Oper} {a : Act} {K : Act → World → Prop} {Q : Exit → Act → World → Prop} {E : Prop}
    (hg : o.guard = none) (s x : Operand) (hop : o.op = Op.call { callee := Callee.builtin Builtin.append, args := #[s, x], argTypes := #[22, 22] })
    (base : Nat) (A : Option Addr) (c n : Nat) (l : List Nat) (hs : a.eval s = .slice A n c) (hn : n = l.length) (hown : OW w base A c l)
    (D : Option Addr) (d m : Nat) (r : List Nat) (hx : a.eval x = .slice D m d) (hm : m = r.length) (Br : Nat) (hr : RW w Br D d r)
    (hlen : l.length + r.length ≤ 1000000) (hbase : base ≤ w.heap.size)
    (hK : ∀ A' c' w', OW w' base A' c' (l ++ r) → Below base w w' → K (a.put o.dst (.slice A' (l ++ r).length c')) w') :
    if Region.wanted o (yielded ops a.tmps) = true then Oper.wp Tryz.prog o a w K Q else E :=
  step_app w 22 55 fw 0 4 Tryz.underlying22 infoW (fun _ => ⟨rfl, rfl⟩) hg s x hop base A c n l hs hn hown.1 D d m r hx hm Br hr.1 (by omega) (by omega) hbase
    fun A' c' w' h1 h2 _ => hK A' c' w' ⟨h1, B32_append hown.2 hr.2⟩ ((Below.refl _ _).grown h2 hbase (by
      intro k hk
      rcases hown.form with ⟨rfl, _⟩ | ⟨g, rfl, hb, _⟩
      · simp [Value.ownBlock] at hk
      · simp [Value.ownBlock] at hk; omega))
end Go.Proofs.YtbgggepdlkbpoaaGreatDoor
namespace Go.Proofs.YtbgggepdlkbpoaaGreatDoor
open Go.RowKit

end Go.Proofs.YtbgggepdlkbpoaaGreatDoor
namespace Go.Proofs.YtbgggepdlkbpoaaGreatDoor
open Go.RowKit

theorem bchk_twice (r i : Rw) : bchkN2 r i r i = bchkN1 r i := by unfold bchkN2 bchkN1; simp
/-- Not's answer -/
def qnotA (r i : Rw) : Rw × Rw × Int := if bchkN1 r i = 0 then fitQ (((-iv r - 1 : Int)) : Rat) 0 else (rw0, rw0, bchkN1 r i)
theorem iv_len {r i : Rw} (h : wB r i = true) : (digs (iv r).natAbs).length = r.a.length := by
  obtain ⟨h1, _⟩ := wB_int h
  have e : (iv r).natAbs = val r.a := by
    unfold iv sgn
    split <;> omega
  rw [e, ← h1]
theorem qboth_not (r i : Rw) : qbothA (fun x _ => 4294967295 - x) r i r i = qnotA r i := by
  unfold qbothA qnotA
  rw [bchk_twice]
  by_cases hk : bchkN1 r i = 0
  · rw [if_pos hk, if_pos hk]
    have hl := iv_len (bchk1_zero hk)
    rw [rowOp_not (by rw [hl]; omega) (by rw [hl]; omega)]
  · rw [if_neg hk, if_neg hk]
/-- the same, by as many words as the reference takes -/
def qbothR (g : Nat → Nat → Nat) (r i r2 i2 : Rw) : Rw × Rw × Int :=
  if bchkN2 r i r2 i2 = 0 then fitQ ((rowOp g (r.a.length + r2.a.length + 1) (iv r) (iv r2) : Int) : Rat) 0 else (rw0, rw0, bchkN2 r i r2 i2)
theorem qboth_same {g : Nat → Nat → Nat} {f : Bool → Bool → Bool} (hg : bitOp g f) (r i r2 i2 : Rw) : qbothR g r i r2 i2 = qbothA g r i r2 i2 := by
  unfold qbothA qbothR
  by_cases hk : bchkN2 r i r2 i2 = 0
  · rw [if_pos hk, if_pos hk]
    obtain ⟨y1, y2⟩ := bchk2_zero hk
    have l1 := iv_len y1
    have l2 := iv_len y2
    rw [rowOp_any hg (n := r.a.length + r2.a.length + 1) (m := max r.a.length r2.a.length + 1) (by rw [l1]; omega) (by rw [l2]; omega) (by rw [l1]; omega) (by rw [l2]; omega)]
  · rw [if_neg hk, if_neg hk]

end Go.Proofs.YtbgggepdlkbpoaaGreatDoor
namespace Go.Proofs.YtbgggepdlkbpoaaGreatDoor

theorem floor_neg (m : Nat) (d : Nat) (hd : 0 < d) : (-(m : Int) - 1) / (d : Int) = -((m / d : Nat) : Int) - 1 := by
  have h1 := Nat.div_add_mod m d
  have h2 := Nat.mod_lt m hd
  generalize m / d = q at *
  generalize m % d = r at *
  have h3 : (m : Int) = (d : Int) * q + r := by exact_mod_cast h1.symm
  have h4 : (-(m : Int) - 1) = (d : Int) * (-(q : Int) - 1) + ((d : Int) - 1 - r) := by rw [h3, Int.mul_sub, Int.mul_neg]; omega
  rw [h4, Int.mul_add_ediv_left _ _ (by omega), Int.ediv_eq_zero_of_lt (by omega) (by omega)]
  omega
/-- shifting down leaves the bits in their order -/
theorem ib_neg (m k : Nat) : ib (-(m : Int) - 1) k = !m.testBit k := by
  unfold ib
  rw [if_pos (by omega), show (-(-(m : Int) - 1) - 1).toNat = m by omega]
theorem ib_nat (m k : Nat) : ib (m : Int) k = m.testBit k := by
  unfold ib
  rw [if_neg (by omega), Int.toNat_natCast]
theorem ib_down (X : Int) (n k : Nat) : ib (X / ((2 ^ n : Nat) : Int)) k = ib X (n + k) := by
  have hp : 0 < 2 ^ n := Nat.pow_pos (by omega)
  by_cases h : X < 0
  · obtain ⟨m, rfl⟩ : ∃ m : Nat, X = -(m : Int) - 1 := ⟨(-X - 1).toNat, by omega⟩
    rw [floor_neg m _ hp, ib_neg, ib_neg, Nat.testBit_div_two_pow, Nat.add_comm]
  · obtain ⟨m, rfl⟩ : ∃ m : Nat, X = (m : Int) := ⟨X.toNat, by omega⟩
    rw [← Int.natCast_ediv, ib_nat, ib_nat, Nat.testBit_div_two_pow, Nat.add_comm]
/-- the bits of a number's lowest bits -/
theorem lowN_bit (N : Nat) (X : Int) (k : Nat) : (lowN N X).testBit k = (decide (k < N) && ib X k) := by
  have hp : 0 < 2 ^ N := Nat.pow_pos (by omega)
  by_cases h : X < 0
  · obtain ⟨m, rfl⟩ : ∃ m : Nat, X = -(m : Int) - 1 := ⟨(-X - 1).toNat, by omega⟩
    rw [low_not]
    have e : lowN N (m : Int) = m % 2 ^ N := by
      unfold lowN
      rw [← Int.natCast_emod, Int.toNat_natCast]
    rw [e, show 2 ^ N - 1 - m % 2 ^ N = 2 ^ N - (m % 2 ^ N + 1) by omega, Nat.testBit_two_pow_sub_succ (Nat.mod_lt _ hp), Nat.testBit_mod_two_pow]
    rw [ib_neg]
    by_cases hk : k < N
    · simp [hk]
    · simp [hk]
  · obtain ⟨m, rfl⟩ : ∃ m : Nat, X = (m : Int) := ⟨X.toNat, by omega⟩
    have e : lowN N (m : Int) = m % 2 ^ N := by
      unfold lowN
      rw [← Int.natCast_emod, Int.toNat_natCast]
    rw [e, Nat.testBit_mod_two_pow]
    rw [ib_nat]
/-- the n bits of a number from s on -/
def fieldN (X : Int) (s n : Nat) : Nat := lowN n (X / ((2 ^ s : Nat) : Int))
theorem fieldN_lt (X : Int) (s n : Nat) : fieldN X s n < 2 ^ n := lowN_lt _ _
theorem fieldN_bit (X : Int) (s n k : Nat) : (fieldN X s n).testBit k = (decide (k < n) && ib X (s + k)) := by
  unfold fieldN
  rw [lowN_bit, ib_down]
theorem fieldN_zero (X : Int) (n : Nat) : (fieldN X 0 n : Int) = X % ((2 ^ n : Nat) : Int) := by
  unfold fieldN lowN
  have hp : 0 < 2 ^ n := Nat.pow_pos (by omega)
  rw [Nat.pow_zero, show ((1 : Nat) : Int) = 1 from rfl, Int.ediv_one]
  have h := Int.emod_nonneg X (b := ((2 ^ n : Nat) : Int)) (by omega)
  omega
/-- a row's bits -/
theorem rowI_bit (n : Nat) (X : Int) (k : Nat) : (wd (rowI n X) (k / 32)).testBit (k % 32) = (decide (k < 32 * n) && ib X k) := by
  rw [← val_testBit (rowI_b32 n X), rowI_val, lowN_bit]
theorem bit_one (x k : Nat) : x >>> k &&& 1 = if x.testBit k then 1 else 0 := by
  rw [Nat.and_one_is_mod, Nat.shiftRight_eq_div_pow, Nat.testBit_eq_decide_div_mod_eq]
  by_cases h : x / 2 ^ k % 2 = 1
  · simp [h]
  · have : x / 2 ^ k % 2 = 0 := by omega
    simp [this]
/-- a word's bit set (or not) -/
theorem or_bitk (x : Nat) (b : Bool) (s j : Nat) : (x ||| ((if b then 1 else 0) * 2 ^ s)).testBit j = (x.testBit j || (b && decide (j = s))) := by
  rw [Nat.testBit_or]
  cases b with
  | false => simp
  | true =>
    simp only [if_true, Nat.one_mul, Bool.true_and]
    rw [Nat.testBit_two_pow]
    simp [eq_comm]
theorem or_bitk_lt {x : Nat} (hx : x < 4294967296) (b : Bool) {s : Nat} (hs : s < 32) : (x ||| ((if b then 1 else 0) * 2 ^ s)) < 4294967296 := by
  have h2 : ((if b then 1 else 0) * 2 ^ s) < 2 ^ 32 := by
    have h3 : 2 ^ s < 2 ^ 32 := Nat.pow_lt_pow_right (by omega) hs
    cases b <;> simp <;> omega
  exact Nat.or_lt_two_pow (n := 32) (by simpa using hx) h2
/-- a row's bit k is set: its number's bits -/
theorem set_bit {o : List Nat} (hb : B32 o) {k : Nat} (hk : k / 32 < o.length) (b : Bool) (j : Nat) :
    (val (o.set (k / 32) (wd o (k / 32) ||| ((if b then 1 else 0) * 2 ^ (k % 32))))).testBit j = ((val o).testBit j || (b && decide (j = k))) := by
  have hb2 : B32 (o.set (k / 32) (wd o (k / 32) ||| ((if b then 1 else 0) * 2 ^ (k % 32)))) := by
    intro x hx
    rcases List.mem_or_eq_of_mem_set hx with h | h
    · exact hb x h
    · rw [h]; exact or_bitk_lt (wd_lt hb _) b (Nat.mod_lt _ (by omega))
  rw [val_testBit hb2, val_testBit hb]
  by_cases e : j / 32 = k / 32
  · rw [e, wd_set_eq hk, or_bitk]
    have : (j % 32 = k % 32) ↔ (j = k) := by omega
    simp [this]
  · rw [wd_set_ne (Ne.symm e)]
    have : ¬ j = k := fun h => e (by rw [h])
    simp [this]
/-- bits set one after the other -/
theorem bits_step {o : List Nat} (hb : B32 o) {k : Nat} (hk : k / 32 < o.length) {f : Nat → Bool} (h : ∀ j, (val o).testBit j = (decide (j < k) && f j)) :
    ∀ j, (val (o.set (k / 32) (wd o (k / 32) ||| ((if f k then 1 else 0) * 2 ^ (k % 32))))).testBit j = (decide (j < k + 1) && f j) := by
  intro j
  rw [set_bit hb hk, h]
  by_cases e : j = k
  · subst e
    simp
  · by_cases hl : j < k
    · simp [e, hl, Nat.lt_succ_of_lt hl]
    · have : ¬ j < k + 1 := by omega
      simp [e, hl, this]
theorem bits_start (n j : Nat) (f : Nat → Bool) : (val (List.replicate n 0)).testBit j = (decide (j < 0) && f j) := by
  rw [val_replicate]; simp
theorem bits_end {v : Nat} {n : Nat} {X : Int} {s : Nat} (h : ∀ j, v.testBit j = (decide (j < n) && ib X (s + j))) : v = fieldN X s n :=
  Nat.eq_of_testBit_eq fun j => by rw [h, fieldN_bit]
/-- how many of a number's n lowest bits are 1 -/
def pcount (v : Nat) : Nat → Nat
  | 0 => 0
  | n + 1 => pcount v n + if v.testBit n then 1 else 0
theorem pcount_le (v n : Nat) : pcount v n ≤ n := by
  induction n with
  | zero => exact Nat.le_refl _
  | succ n ih => unfold pcount; split <;> omega
theorem pcount_split (v n m : Nat) : pcount v (n + m) = pcount v n + pcount (v / 2 ^ n) m := by
  induction m with
  | zero => simp [pcount]
  | succ m ih =>
    rw [← Nat.add_assoc]
    show pcount v (n + m) + _ = _
    rw [ih]
    show _ = pcount v n + (pcount (v / 2 ^ n) m + _)
    rw [Nat.testBit_div_two_pow, Nat.add_comm m n]
    omega
theorem pcount_mod (v m : Nat) : ∀ n, n ≤ m → pcount (v % 2 ^ m) n = pcount v n := by
  intro n
  induction n with
  | zero => intro _; rfl
  | succ n ih =>
    intro h
    unfold pcount
    rw [ih (by omega), Nat.testBit_mod_two_pow]
    have : n < m := by omega
    simp [this]
theorem pcount_word {l : List Nat} (h : B32 l) {k : Nat} : pcount (val l) (32 * (k + 1)) = pcount (val l) (32 * k) + pcount (wd l k) 32 := by
  have key : ∀ j, j ≤ 32 → pcount (val l) (32 * k + j) = pcount (val l) (32 * k) + pcount (wd l k) j := by
    intro j
    induction j with
    | zero => intro _; simp [pcount]
    | succ j ih =>
      intro hj
      rw [← Nat.add_assoc]
      have e : (val l).testBit (32 * k + j) = (wd l k).testBit j := by
        rw [val_testBit h, show (32 * k + j) / 32 = k by omega, show (32 * k + j) % 32 = j by omega]
      show pcount (val l) (32 * k + j) + (if (val l).testBit (32 * k + j) = true then 1 else 0) = pcount (val l) (32 * k) + (pcount (wd l k) j + _)
      rw [ih (by omega), e]
      omega
  exact key 32 (Nat.le_refl _)
theorem pcount_bytes (x : Nat) : pcount x 32 = pcount (x / 16777216) 8 + pcount (x / 65536 % 256) 8 + pcount (x / 256 % 256) 8 + pcount (x % 256) 8 := by
  have h1 := pcount_split x 8 24
  rw [show 8 + 24 = 32 from rfl] at h1
  have h2 := pcount_split (x / 2 ^ 8) 8 16
  rw [show 8 + 16 = 24 from rfl] at h2
  have h3 := pcount_split (x / 2 ^ 8 / 2 ^ 8) 8 8
  rw [show 8 + 8 = 16 from rfl] at h3
  rw [Nat.div_div_eq_div_mul x, Nat.div_div_eq_div_mul x] at h3
  have m0 := pcount_mod x 8 8 (Nat.le_refl _)
  have m1 := pcount_mod (x / 2 ^ 8) 8 8 (Nat.le_refl _)
  have m2 := pcount_mod (x / (2 ^ 8 * 2 ^ 8)) 8 8 (Nat.le_refl _)
  rw [Nat.div_div_eq_div_mul] at h2
  simp only [show (2 ^ 8 : Nat) = 256 from rfl, show (256 * 256 : Nat) = 65536 from rfl, show (65536 * 256 : Nat) = 16777216 from rfl] at *
  omega
end Go.Proofs.YtbgggepdlkbpoaaGreatDoor
