/- Merged texts: Dat, Bytes, DatM, DatF, DatG, DatH. -/
import Derived.Test.YtilhnjecnhpmlaaDoorGF
import Derived.Test.YtilhnjecnhpmlaaDoorProg
import Derived.Test.YtilhnjecnhpmlaaDoorGB
import Derived.Deep.MidRow
import Derived.Deep.Upon
namespace Go.Proofs.YtilhnjecnhpmlaaDoor

/-- a datum as it came -/
inductive Dat where
  | mk (k n : Int) (re im : Rw) (t : ByteArray) (raw : List UInt8) (l : List Dat)
namespace Dat
def k : Dat → Int | mk k _ _ _ _ _ _ => k
def n : Dat → Int | mk _ n _ _ _ _ _ => n
def re : Dat → Rw | mk _ _ r _ _ _ _ => r
def im : Dat → Rw | mk _ _ _ i _ _ _ => i
def t : Dat → ByteArray | mk _ _ _ _ t _ _ => t
def raw : Dat → List UInt8 | mk _ _ _ _ _ r _ => r
def l : Dat → List Dat | mk _ _ _ _ _ _ l => l
end Dat
theorem Dat.eta (d : Dat) : d = .mk d.k d.n d.re d.im d.t d.raw d.l := by cases d; rfl
theorem Dat.ext {a b : Dat} (h1 : a.k = b.k) (h2 : a.n = b.n) (h3 : a.re = b.re) (h4 : a.im = b.im) (h5 : a.t = b.t) (h6 : a.raw = b.raw) (h7 : a.l = b.l) : a = b := by
  rw [a.eta, b.eta, h1, h2, h3, h4, h5, h6, h7]
theorem Dat.lt_of_mem {d x : Dat} (h : x ∈ d.l) : SizeOf.sizeOf x < SizeOf.sizeOf d := by
  cases d with
  | mk k n re im t raw l =>
    have := List.sizeOf_lt_of_mem h
    show SizeOf.sizeOf x < SizeOf.sizeOf (Dat.mk k n re im t raw l)
    simp only [Dat.mk.sizeOf_spec]
    simp only [Dat.l] at this
    omega
/-- a fraction without words -/
def noR (r : Rw) : Bool := !r.s && (decide (r.a.length = 0) && decide (r.b.length = 0))
def isCharB (n : Int) : Bool := decide (0 ≤ n ∧ n ≤ 55295) || decide (57344 ≤ n ∧ n ≤ 1114111)
def textK (k : Int) : Bool := decide (k = 5) || (decide (k = 6) || decide (k = 11))
/-- is a node sound by its kind, but for its List's data? valid: is its text of characters? -/
def Dat.shape (valid : ByteArray → Bool) (d : Dat) : Bool :=
  (if d.k = 3 then nB d.re d.im else noR d.re && noR d.im) && ((textK d.k || decide (d.t.size = 0)) && (valid d.t && ((decide (d.k = 7) || decide (d.raw.length = 0)) &&
    (if d.k = 8 then decide (d.n = 0) && decide (d.l.length = 2) else if d.k = 9 then decide (d.n = 0) else if d.k = 2 then decide (d.n = 0 ∨ d.n = 1) && decide (d.l.length = 0)
      else if d.k = 4 then isCharB d.n && decide (d.l.length = 0) else decide (1 ≤ d.k ∧ d.k ≤ 11) && (decide (d.n = 0) && decide (d.l.length = 0))))))
/-- how deep the i-th of a node's data stands -/
def inner (pair : Bool) (i depth : Nat) : Nat := if pair = true ∧ i = 1 then depth else depth + 1
mutual
/-- how many of left nodes are left behind d, which stands so deep; below 0: it is not sound -/
def Dat.cnt (v : ByteArray → Bool) : Dat → Nat → Int → Int
  | .mk k n re im t raw l, depth, left => if 200 < depth ∨ left ≤ 0 ∨ (Dat.mk k n re im t raw l).shape v = false then -1 else cntL v l (decide (k = 8)) 0 depth (left - 1)
def cntL (v : ByteArray → Bool) : List Dat → Bool → Nat → Nat → Int → Int
  | [], _, _, _, left => left
  | x :: xs, p, i, depth, left => cntL v xs p (i + 1) depth (x.cnt v (inner p i depth) left)
end
theorem Dat.cnt_eq (v : ByteArray → Bool) (d : Dat) (depth : Nat) (left : Int) : d.cnt v depth left = if 200 < depth ∨ left ≤ 0 ∨ d.shape v = false then -1 else cntL v d.l (decide (d.k = 8)) 0 depth (left - 1) := by
  cases d; rw [Dat.cnt]; rfl
theorem cnt_neg (v : ByteArray → Bool) (d : Dat) (depth : Nat) {left : Int} (h : left ≤ 0) : d.cnt v depth left = -1 := by
  rw [Dat.cnt_eq, if_pos (.inr (.inl h))]
theorem cntL_neg (v : ByteArray → Bool) (l : List Dat) (p : Bool) (i depth : Nat) : cntL v l p i depth (-1) = -1 := by
  induction l generalizing i with
  | nil => rfl
  | cons x xs ih => rw [cntL, cnt_neg v x _ (by omega)]; exact ih _
def Dat.sound (v : ByteArray → Bool) (d : Dat) : Bool := decide (0 ≤ d.cnt v 1 20000)
mutual
theorem Dat.cnt_le (v : ByteArray → Bool) : ∀ (d : Dat) (depth : Nat) (left : Int), d.cnt v depth left = -1 ∨ (0 ≤ d.cnt v depth left ∧ d.cnt v depth left < left)
  | .mk k n re im t raw l, depth, left => by
    rw [Dat.cnt]
    by_cases h : 200 < depth ∨ left ≤ 0 ∨ (Dat.mk k n re im t raw l).shape v = false
    · rw [if_pos h]; exact .inl rfl
    · rw [if_neg h]
      rcases cntL_le v l (decide (k = 8)) 0 depth (left - 1) (by omega) with h1 | h1
      · exact .inl h1
      · exact .inr (by omega)
theorem cntL_le (v : ByteArray → Bool) : ∀ (l : List Dat) (p : Bool) (i depth : Nat) (left : Int), 0 ≤ left → cntL v l p i depth left = -1 ∨ (0 ≤ cntL v l p i depth left ∧ cntL v l p i depth left ≤ left)
  | [], p, i, depth, left, h => .inr (by rw [cntL]; omega)
  | x :: xs, p, i, depth, left, h => by
    rw [cntL]
    rcases Dat.cnt_le v x (inner p i depth) left with h1 | h1
    · rw [h1, cntL_neg]; exact .inl rfl
    · rcases cntL_le v xs p (i + 1) depth _ h1.1 with h2 | h2
      · exact .inl h2
      · exact .inr (by omega)
end
/-- order of lists -/
def cmpZ (a b : Int) : Int := if a < b then -1 else if b < a then 1 else 0
def cmpL : List Nat → List Nat → Int
  | [], [] => 0
  | [], _ :: _ => -1
  | _ :: _, [] => 1
  | x :: xs, y :: ys => if x < y then -1 else if y < x then 1 else cmpL xs ys
def bytesN (b : ByteArray) : List Nat := b.data.toList.map (·.toNat)
mutual
/-- the order of data; num: of numbers -/
def Dat.ord (num : Rw → Rw → Rw → Rw → Int) : Dat → Dat → Int
  | .mk k n re im t raw l, b =>
    if cmpZ k b.k ≠ 0 then cmpZ k b.k
    else if k = 3 then num re im b.re b.im
    else if textK k = true then cmpL (bytesN t) (bytesN b.t)
    else if k = 7 then cmpL (raw.map (·.toNat)) (b.raw.map (·.toNat))
    else if k = 8 ∨ k = 9 then (if cmpZ l.length b.l.length ≠ 0 then cmpZ l.length b.l.length else ordL num l b.l)
    else cmpZ n b.n
def ordL (num : Rw → Rw → Rw → Rw → Int) : List Dat → List Dat → Int
  | [], _ => 0
  | x :: xs, ys => match ys with
    | [] => 0
    | y :: ys => if x.ord num y ≠ 0 then x.ord num y else ordL num xs ys
end
theorem Dat.ord_eq (num : Rw → Rw → Rw → Rw → Int) (a b : Dat) : a.ord num b = if cmpZ a.k b.k ≠ 0 then cmpZ a.k b.k
    else if a.k = 3 then num a.re a.im b.re b.im
    else if textK a.k = true then cmpL (bytesN a.t) (bytesN b.t)
    else if a.k = 7 then cmpL (a.raw.map (·.toNat)) (b.raw.map (·.toNat))
    else if a.k = 8 ∨ a.k = 9 then (if cmpZ a.l.length b.l.length ≠ 0 then cmpZ a.l.length b.l.length else ordL num a.l b.l)
    else cmpZ a.n b.n := by
  cases a; rw [Dat.ord]; rfl
end Go.Proofs.YtilhnjecnhpmlaaDoor
namespace Go.Proofs.YtilhnjecnhpmlaaDoor
open Go.RowKit

/-- a byte's cell -/
def f8 (x : UInt8) : Value := .int .u8 (x.toNat : Int)
def RB (w : World) (B : Nat) (A : Option Addr) (c : Nat) (l : List UInt8) : Prop := RL f8 w B A c l
def OB (w : World) (base : Nat) (A : Option Addr) (c : Nat) (l : List UInt8) : Prop := OL 5 f8 w base A c l
theorem infoB : (Tryd.prog.info? 5).map (fun i => (i.zero, i.size, i.bytes)) = some (some (f8 0), 1, 1) := by kernel_rfl
theorem b_get? {l : List UInt8} {k : Nat} (h : k < l.length) : l[k]? = some (l.getD k 0) := by rw [List.getElem?_eq_getElem h, List.getD_eq_getElem?_getD, List.getElem?_eq_getElem h]; rfl

theorem wp_appB (w : World) {ops : Array Oper} {rest : List Oper} {o : Oper} {a : Act} {Q : Exit → Act → World → Prop}
    (hg : o.guard = none) (s x : Operand) (hop : o.op = Op.call { callee := Callee.builtin Builtin.append, args := #[s, x], argTypes := #[29, 29] })
    (base : Nat) (A : Option Addr) (c n : Nat) (l : List UInt8) (hs : a.eval s = .slice A n c) (hn : n = l.length) (hown : OB w base A c l)
    (D : Option Addr) (d m : Nat) (r : List UInt8) (hx : a.eval x = .slice D m d) (hm : m = r.length) (Br : Nat) (hr : RB w Br D d r)
    (hlen : l.length + r.length ≤ 35184372088832) (hbase : base ≤ w.heap.size)
    (hK : ∀ A' c' w', OB w' base A' c' (l ++ r) → w.grownBy w' (Value.slice A n c).ownBlock → Below base w w' → wpList Tryd.prog ops Q rest (a.put o.dst (.slice A' (l ++ r).length c')) w') :
    wpList Tryd.prog ops Q (o :: rest) a w :=
  wp_app w 29 5 f8 0 1 Tryd.underlying29 infoB (fun _ => ⟨rfl, rfl⟩) hg s x hop base A c n l hs hn hown D d m r hx hm Br hr hlen (by omega) hbase
    fun A' c' w' h1 h2 _ => hK A' c' w' h1 h2 ((Below.refl _ _).grown h2 hbase (by
      intro k hk
      rcases OL.form hown with ⟨rfl, _⟩ | ⟨g, rfl, hb, _⟩
      · simp [Value.ownBlock] at hk
      · simp [Value.ownBlock] at hk; omega))
/-- one byte in a new block, as append's source -/
theorem RB.one (w : World) (t : TypeId) (x : UInt8) : RB (w.alloc (.cells #[.int .u8 (x.toNat : Int)] t)) (w.heap.size + 1) (some ⟨w.heap.size, 0, none⟩) 1 [x] := by
  refine ⟨by simp, by simp, fun _ => ⟨_, _, rfl, by omega, fun k y hk => ?_⟩⟩
  match k, hk with
  | 0, hk => simp at hk; subst hk; have := cell_one_new w (.int .u8 (x.toNat : Int)) t 0 _ rfl; rwa [Addr.add_lit] at this
theorem OB.empty (w : World) : OB (w.alloc (.cells #[] 5)) w.heap.size (some ⟨w.heap.size, 0, none⟩) 0 [] := by
  refine ⟨?_, by simp⟩
  have h := World.ownsRow_lit (e := 5) (size := 1) w #[] 0 (Nat.le_refl _) (by unfold maxLen; omega) (by simp)
  simpa using h
/-- string(b) -/
theorem conv_bytes {w : World} {B : Nat} {A : Option Addr} {c : Nat} {l : List UInt8} (h : RB w B A c l) (hA : ∃ b off, A = some ⟨b, off, none⟩) :
    (convert 29 9 (.slice A l.length c)).run Tryd.prog w = .ok (.string ⟨l.toArray⟩) w := by
  obtain ⟨b, off, rfl⟩ := hA
  refine run_convert_bytes_back w 29 9 5 ⟨b, off, none⟩ c l Tryd.underlying29 Tryd.underlying5 Tryd.underlying9 fun j hj => ?_
  obtain ⟨b', off', e, _, hc⟩ := h.at_ (by omega)
  simp only [Option.some.injEq, Addr.mk.injEq, and_true] at e
  obtain ⟨rfl, rfl⟩ := e
  rw [Addr.add_lit]
  exact hc j _ (List.getElem?_eq_getElem hj)

/-- how long a slice is -/
def slen : Value → Nat | .slice _ n _ => n | _ => 0

def bg (l : List UInt8) (k : Nat) : UInt8 := l.getD k 0
theorem bg_get? {l : List UInt8} {k : Nat} (h : k < l.length) : l[k]? = some (bg l k) := b_get? h
theorem bg_set_eq {l : List UInt8} {k : Nat} (x : UInt8) (h : k < l.length) : bg (l.set k x) k = x := by
  unfold bg; simp [List.getD_eq_getElem?_getD, h]
theorem bg_set_ne {l : List UInt8} {k j : Nat} (x : UInt8) (h : k ≠ j) : bg (l.set k x) j = bg l j := by
  unfold bg; simp [List.getD_eq_getElem?_getD, h]
theorem bg_ext {a b : List UInt8} (hl : a.length = b.length) (h : ∀ k, k < a.length → bg a k = bg b k) : a = b := by
  refine List.ext_getElem? fun k => ?_
  by_cases hk : k < a.length
  · rw [bg_get? hk, bg_get? (by omega), h k hk]
  · rw [List.getElem?_eq_none (by omega), List.getElem?_eq_none (by omega)]
theorem bg_rev {l : List UInt8} {k : Nat} (h : k < l.length) : bg l.reverse k = bg l (l.length - 1 - k) := by
  have h1 := bg_get? (l := l.reverse) (k := k) (by rw [List.length_reverse]; exact h)
  rw [List.getElem?_reverse h, bg_get? (by omega)] at h1
  exact (Option.some.inj h1).symm
/-- turned round as far as k places from both ends -/
def Rvd (o l : List UInt8) (k : Nat) : Prop :=
  l.length = o.length ∧ ∀ t, t < o.length → bg l t = if t < k ∨ o.length ≤ t + k then bg o (o.length - 1 - t) else bg o t
theorem Rvd_step {o l : List UInt8} {k j : Nat} (h : Rvd o l k) (hj : j = o.length - 1 - k) (hk : k < j) : Rvd o ((l.set k (bg l j)).set j (bg l k)) (k + 1) := by
  refine ⟨by rw [List.length_set, List.length_set]; exact h.1, fun t ht => ?_⟩
  have hl := h.1
  by_cases h1 : j = t
  · subst h1
    rw [bg_set_eq _ (by rw [List.length_set]; omega), h.2 k (by omega), if_neg (by omega), if_pos (by omega)]
    congr 1; omega
  · rw [bg_set_ne _ h1]
    by_cases h2 : k = t
    · subst h2
      rw [bg_set_eq _ (by omega), h.2 j (by omega), if_neg (by omega), if_pos (by omega)]
      congr 1
    · rw [bg_set_ne _ h2, h.2 t ht]
      by_cases h3 : t < k ∨ o.length ≤ t + k
      · rw [if_pos h3, if_pos (by omega)]
      · rw [if_neg h3, if_neg (by omega)]
theorem Rvd_end {o l : List UInt8} {k : Nat} (h : Rvd o l k) (hk : ¬ ((k : Int) < (o.length : Int) - 1 - k)) : l = o.reverse := by
  refine bg_ext (by rw [List.length_reverse]; exact h.1) fun t ht => ?_
  have hl := h.1
  rw [bg_rev (by omega), h.2 t (by omega)]
  split
  · rfl
  · congr 1; omega
end Go.Proofs.YtilhnjecnhpmlaaDoor
namespace Go.Proofs.YtilhnjecnhpmlaaDoor
open Go.RowKit

mutual
/-- a value (eleven cells) reads as the datum d, all of it below block B -/
def RD (w : World) (B : Nat) : Dat → Value → Prop
  | .mk k n re im t raw l, v => ∃ A1 c1 D1 d1 A2 c2 D2 d2 R rc L lc,
    v = .agg #[.int .i64 k, .int .i64 n, .bool re.s, .slice A1 re.a.length c1, .slice D1 re.b.length d1, .bool im.s, .slice A2 im.a.length c2, .slice D2 im.b.length d2, .string t, .slice R raw.length rc, .slice L l.length lc] ∧
    (RW w B A1 c1 re.a ∧ RW w B D1 d1 re.b ∧ RW w B A2 c2 im.a ∧ RW w B D2 d2 im.b ∧ RB w B R rc raw) ∧
    ((-9223372036854775808 ≤ k ∧ k ≤ 9223372036854775807) ∧ (-9223372036854775808 ≤ n ∧ n ≤ 9223372036854775807) ∧ t.size ≤ 1048576) ∧
    (l.length ≤ lc ∧ l.length ≤ 35184372088832) ∧ (0 < l.length → ∃ b off, L = some ⟨b, off, none⟩ ∧ b < B ∧ RDs w B l b off)
/-- a block's cells, from off on, read as data -/
def RDs (w : World) (B : Nat) : List Dat → Nat → Nat → Prop
  | [], _, _ => True
  | x :: xs, b, off => (∃ v : Value, RD w B x v ∧ ∀ cs, v = .agg cs → ∀ j u, cs[j]? = some u → w.cell? ⟨b, off + j, none⟩ = some u) ∧ RDs w B xs b (off + 11)
end
section
variable {w w' : World} {B B' : Nat}
theorem RD.view {d : Dat} {v : Value} (h : RD w B d v) : ∃ A1 c1 D1 d1 A2 c2 D2 d2 R rc L lc,
    v = .agg #[.int .i64 d.k, .int .i64 d.n, .bool d.re.s, .slice A1 d.re.a.length c1, .slice D1 d.re.b.length d1, .bool d.im.s, .slice A2 d.im.a.length c2, .slice D2 d.im.b.length d2, .string d.t, .slice R d.raw.length rc, .slice L d.l.length lc] ∧
    (RW w B A1 c1 d.re.a ∧ RW w B D1 d1 d.re.b ∧ RW w B A2 c2 d.im.a ∧ RW w B D2 d2 d.im.b ∧ RB w B R rc d.raw) ∧
    ((-9223372036854775808 ≤ d.k ∧ d.k ≤ 9223372036854775807) ∧ (-9223372036854775808 ≤ d.n ∧ d.n ≤ 9223372036854775807) ∧ d.t.size ≤ 1048576) ∧
    (d.l.length ≤ lc ∧ d.l.length ≤ 35184372088832) ∧ (0 < d.l.length → ∃ b off, L = some ⟨b, off, none⟩ ∧ b < B ∧ RDs w B d.l b off) := by
  cases d
  rw [RD] at h
  exact h
mutual
theorem RD.step {w w' : World} {B B' : Nat} (hb : Below B w w') (hB : B ≤ B') : ∀ {d : Dat} {v : Value}, RD w B d v → RD w' B' d v
  | .mk k n re im t raw l, v, h => by
    rw [RD] at h ⊢
    obtain ⟨A1, c1, D1, d1, A2, c2, D2, d2, R, rc, L, lc, e, ⟨h1, h2, h3, h4, h5⟩, hn, hl, hd⟩ := h
    refine ⟨A1, c1, D1, d1, A2, c2, D2, d2, R, rc, L, lc, e, ⟨h1.step hb hB, h2.step hb hB, h3.step hb hB, h4.step hb hB, RL.step h5 hb hB⟩, hn, hl, fun h0 => ?_⟩
    obtain ⟨b, off, e1, e2, e3⟩ := hd h0
    exact ⟨b, off, e1, by omega, RDs.step hb hB e2 e3⟩
theorem RDs.step {w w' : World} {B B' : Nat} (hb : Below B w w') (hB : B ≤ B') : ∀ {l : List Dat} {b off : Nat}, b < B → RDs w B l b off → RDs w' B' l b off
  | [], b, off, _, _ => by rw [RDs]; trivial
  | x :: xs, b, off, hlt, h => by
    rw [RDs] at h ⊢
    obtain ⟨⟨v, h1, h2⟩, h3⟩ := h
    exact ⟨⟨v, RD.step hb hB h1, fun cs e j u hj => (hb.cell (p := ⟨b, off + j, none⟩) hlt).trans (h2 cs e j u hj)⟩, RDs.step hb hB hlt h3⟩
end
theorem RD.st {d : Dat} {v : Value} (h : RD w w.heap.size d v) (hb : Below w.heap.size w w') : RD w' w'.heap.size d v := RD.step hb hb.size h
/-- the i-th of a block's data -/
theorem RDs.get {l : List Dat} {b off : Nat} (h : RDs w B l b off) {i : Nat} {x : Dat} (hi : l[i]? = some x) :
    ∃ v : Value, RD w B x v ∧ ∀ cs, v = .agg cs → ∀ j u, cs[j]? = some u → w.cell? ⟨b, off + i * 11 + j, none⟩ = some u := by
  induction l generalizing i off with
  | nil => cases hi
  | cons y ys ih =>
    rw [RDs] at h
    obtain ⟨⟨v, h1, h2⟩, h3⟩ := h
    cases i with
    | zero =>
      cases hi
      exact ⟨v, h1, by rw [Nat.zero_mul, Nat.add_zero]; exact h2⟩
    | succ i =>
      obtain ⟨v, g1, g2⟩ := ih h3 (i := i) hi
      exact ⟨v, g1, by rw [show off + (i + 1) * 11 = off + 11 + i * 11 by omega]; exact g2⟩
end
end Go.Proofs.YtilhnjecnhpmlaaDoor
namespace Go.Proofs.YtilhnjecnhpmlaaDoor
open Go.RowKit

set_option maxRecDepth 100000 in
set_option maxHeartbeats 4000000 in
theorem dnoRat_any (v : Value) (s : Bool) (a b : List Nat) (w : World) (h : VR w w.heap.size v s a b) :
    Calls Tryd.prog 72 #[v] w fun e w' => e = .returned (.bool (noR ⟨s, a, b⟩)) ∧ Below w.heap.size w w' := by
  obtain ⟨A, c, D, d, rfl, -, -⟩ := h
  have B1 := bal w (.cells #[.bool s, .slice A a.length c, .slice D b.length d] 26)
  have s1 := SB.new w [.bool s, .slice A a.length c, .slice D b.length d] 26
  have m0 := s1.cell 0
  have m1 := s1.cell 1
  have m2 := s1.cell 2
  unfold noR
  dsimp only
  cases s with
  | true =>
    go_enter Tryd.func72, Tryd.ntmps72
    go_wp2_with fail
    go_ret
    exact ⟨by simp, B1⟩
  | false =>
    by_cases ha : a.length = 0
    · have t1 : ((a.length : Int) == 0) = true := by rw [ha]; rfl
      by_cases hb : b.length = 0
      · have t2 : ((b.length : Int) == 0) = true := by rw [hb]; rfl
        rw [decide_eq_true ha, decide_eq_true hb]
        clear ha hb
        go_enter Tryd.func72, Tryd.ntmps72
        go_wp2_with fail
        go_ret
        exact ⟨by simp, B1⟩
      · have t2 : ((b.length : Int) == 0) = false := beq_eq_false_iff_ne.2 (by omega)
        rw [decide_eq_true ha, decide_eq_false hb]
        clear ha hb
        go_enter Tryd.func72, Tryd.ntmps72
        go_wp2_with fail
        go_ret
        exact ⟨by simp, B1⟩
    · have t1 : ((a.length : Int) == 0) = false := beq_eq_false_iff_ne.2 (by omega)
      rw [decide_eq_false ha]
      clear ha
      go_enter Tryd.func72, Tryd.ntmps72
      go_wp2_with fail
      go_ret
      exact ⟨by simp, B1⟩
set_option maxRecDepth 100000 in
set_option maxHeartbeats 4000000 in
theorem disChar_any (n : Int) (w : World) : Calls Tryd.prog 74 #[.int .i64 n] w fun e w' => e = .returned (.bool (isCharB n)) ∧ w = w' := by
  obtain ⟨z, hz⟩ : ∃ z, Hid (isCharB n = z) := ⟨_, rfl⟩
  rw [hz.out]
  by_cases h1 : 0 ≤ n
  · have t1 : decide (0 ≤ n) = true := decide_eq_true h1
    by_cases h2 : n ≤ 55295
    · have t2 : decide (n ≤ 55295) = true := decide_eq_true h2
      go_enter Tryd.func74, Tryd.ntmps74
      go_wp2_with fail
      go_ret
      refine ⟨?_, rfl⟩
      rw [← hz.out]; unfold isCharB; simp [h1, h2]
    · have t2 : decide (n ≤ 55295) = false := decide_eq_false h2
      by_cases h3 : 57344 ≤ n
      · have t3 : decide (57344 ≤ n) = true := decide_eq_true h3
        go_enter Tryd.func74, Tryd.ntmps74
        go_wp2_with fail
        go_ret
        refine ⟨?_, rfl⟩
        rw [← hz.out]; unfold isCharB; simp [h1, h3] <;> omega
      · have t3 : decide (57344 ≤ n) = false := decide_eq_false h3
        go_enter Tryd.func74, Tryd.ntmps74
        go_wp2_with fail
        go_ret
        refine ⟨?_, rfl⟩
        rw [← hz.out]; unfold isCharB; simp [h1, h2] <;> omega
  · have t1 : decide (0 ≤ n) = false := decide_eq_false h1
    have t3 : decide (57344 ≤ n) = false := decide_eq_false (by omega)
    go_enter Tryd.func74, Tryd.ntmps74
    go_wp2_with fail
    go_ret
    refine ⟨?_, rfl⟩
    rw [← hz.out]; unfold isCharB; simp [show ¬ 57344 ≤ n by omega] <;> omega
set_option maxRecDepth 100000 in
set_option maxHeartbeats 4000000 in
theorem dshape_any (valid : ByteArray → Bool) (d : Dat) (v : Value) (w : World) (h : RD w w.heap.size d v)
    (hv : ∀ w', Below w.heap.size w w' → Calls Tryd.prog 73 #[.string d.t] w' fun e w'' => e = .returned (.bool (valid d.t)) ∧ Below w'.heap.size w' w'') :
    Calls Tryd.prog 54 #[v] w fun e w' => e = .returned (.bool (d.shape valid)) ∧ Below w.heap.size w w' := by
  obtain ⟨A1, c1, D1, d1, A2, c2, D2, d2, R, rc, L, lc, rfl, ⟨h1, h2, h3, h4, -⟩, ⟨hk, hn, ht⟩, -, -⟩ := h.view
  unfold Dat.shape
  generalize d.k = k at *
  generalize d.n = n at *
  generalize d.re = r at *
  generalize d.im = i at *
  generalize d.t = t at *
  generalize d.raw.length = rw_ at *
  generalize d.l.length = ll at *
  clear h
  obtain ⟨num, hnum⟩ : ∃ num, Hid ((if k = 3 then nB r i else noR r && noR i) = num) := ⟨_, rfl⟩
  obtain ⟨tx, htx⟩ : ∃ tx, Hid (textK k = tx) := ⟨_, rfl⟩
  obtain ⟨vl, hvl⟩ : ∃ vl, Hid (valid t = vl) := ⟨_, rfl⟩
  rw [hnum.out, htx.out, hvl.out]
  rw [hvl.out] at hv
  clear hvl
  obtain ⟨z, hz⟩ : ∃ z, Hid ((num && ((tx || decide (t.size = 0)) && (vl && ((decide (k = 7) || decide (rw_ = 0)) &&
    (if k = 8 then decide (n = 0) && decide (ll = 2) else if k = 9 then decide (n = 0) else if k = 2 then decide (n = 0 ∨ n = 1) && decide (ll = 0)
      else if k = 4 then isCharB n && decide (ll = 0) else decide (1 ≤ k ∧ k ≤ 11) && (decide (n = 0) && decide (ll = 0))))))) = z) := ⟨_, rfl⟩
  rw [hz.out]
  have S0 := SB.new w [.int .i64 k, .int .i64 n, .bool r.s, .slice A1 r.a.length c1, .slice D1 r.b.length d1, .bool i.s, .slice A2 i.a.length c2, .slice D2 i.b.length d2, .string t, .slice R rw_ rc, .slice L ll lc] 31
  have C0 := bal w (.cells #[.int .i64 k, .int .i64 n, .bool r.s, .slice A1 r.a.length c1, .slice D1 r.b.length d1, .bool i.s, .slice A2 i.a.length c2, .slice D2 i.b.length d2, .string t, .slice R rw_ rc, .slice L ll lc] 31)
  have q1 : VN (w.alloc (.cells #[.int .i64 k, .int .i64 n, .bool r.s, .slice A1 r.a.length c1, .slice D1 r.b.length d1, .bool i.s, .slice A2 i.a.length c2, .slice D2 i.b.length d2, .string t, .slice R rw_ rc, .slice L ll lc] 31)) (w.alloc (.cells #[.int .i64 k, .int .i64 n, .bool r.s, .slice A1 r.a.length c1, .slice D1 r.b.length d1, .bool i.s, .slice A2 i.a.length c2, .slice D2 i.b.length d2, .string t, .slice R rw_ rc, .slice L ll lc] 31)).heap.size (.agg #[.bool r.s, .slice A1 r.a.length c1, .slice D1 r.b.length d1, .bool i.s, .slice A2 i.a.length c2, .slice D2 i.b.length d2]) r i := VN.st ⟨A1, c1, D1, d1, A2, c2, D2, d2, rfl, h1, h2, h3, h4⟩ C0
  have q2 : VR (w.alloc (.cells #[.int .i64 k, .int .i64 n, .bool r.s, .slice A1 r.a.length c1, .slice D1 r.b.length d1, .bool i.s, .slice A2 i.a.length c2, .slice D2 i.b.length d2, .string t, .slice R rw_ rc, .slice L ll lc] 31)) (w.alloc (.cells #[.int .i64 k, .int .i64 n, .bool r.s, .slice A1 r.a.length c1, .slice D1 r.b.length d1, .bool i.s, .slice A2 i.a.length c2, .slice D2 i.b.length d2, .string t, .slice R rw_ rc, .slice L ll lc] 31)).heap.size (.agg #[.bool r.s, .slice A1 r.a.length c1, .slice D1 r.b.length d1]) r.s r.a r.b := VR.st ⟨A1, c1, D1, d1, rfl, h1, h2⟩ C0
  have q3 : VR (w.alloc (.cells #[.int .i64 k, .int .i64 n, .bool r.s, .slice A1 r.a.length c1, .slice D1 r.b.length d1, .bool i.s, .slice A2 i.a.length c2, .slice D2 i.b.length d2, .string t, .slice R rw_ rc, .slice L ll lc] 31)) (w.alloc (.cells #[.int .i64 k, .int .i64 n, .bool r.s, .slice A1 r.a.length c1, .slice D1 r.b.length d1, .bool i.s, .slice A2 i.a.length c2, .slice D2 i.b.length d2, .string t, .slice R rw_ rc, .slice L ll lc] 31)).heap.size (.agg #[.bool i.s, .slice A2 i.a.length c2, .slice D2 i.b.length d2]) i.s i.a i.b := VR.st ⟨A2, c2, D2, d2, rfl, h3, h4⟩ C0
  clear h1 h2 h3 h4
  obtain ⟨W0, hW0⟩ : ∃ W0, W0 = w.alloc (.cells #[.int .i64 k, .int .i64 n, .bool r.s, .slice A1 r.a.length c1, .slice D1 r.b.length d1, .bool i.s, .slice A2 i.a.length c2, .slice D2 i.b.length d2, .string t, .slice R rw_ rc, .slice L ll lc] 31) := ⟨_, rfl⟩
  go_enter Tryd.func54, Tryd.ntmps54
  go_upto_region 1 with fail
  rw [← hW0] at S0 C0 q1 q2 q3 ⊢
  clear hW0
  go_cut [3] (fun s3 wx => s3 = .bool num ∧ SB wx w.heap.size [.int .i64 k, .int .i64 n, .bool r.s, .slice A1 r.a.length c1, .slice D1 r.b.length d1, .bool i.s, .slice A2 i.a.length c2, .slice D2 i.b.length d2, .string t, .slice R rw_ rc, .slice L ll lc] ∧ Below w.heap.size w wx)
  case first =>
    have i0 := S0.cell 0; have i1 := S0.cell 1; have i2 := S0.cell 2; have i3 := S0.cell 3; have i4 := S0.cell 4; have i5 := S0.cell 5; have i6 := S0.cell 6; have i7 := S0.cell 7
    have hn_ := hnum.out
    by_cases h3 : k = 3
    · have t3 : (k == 3) = true := by rw [h3]; rfl
      rw [if_pos h3] at hn_
      clear h3
      go_wp2_with fail
      refine (esound_any _ r i _ q1).mono ?_; rintro e w3 ⟨rfl, B3⟩
      rw [hn_]
      clear hn_ i0 i1 i2 i3 i4 i5 i6 i7
      have S3 := S0.nx B3
      have i0 := S3.cell 0; have i1 := S3.cell 1; have i2 := S3.cell 2; have i3 := S3.cell 3; have i4 := S3.cell 4; have i5 := S3.cell 5; have i6 := S3.cell 6; have i7 := S3.cell 7
      have t4 : (k != 3) = false := by rw [bne, t3]; rfl
      cases num <;> (go_wp2_with fail; go_meet; exact ⟨rfl, S3, bt C0 B3⟩)
    · have t3 : (k == 3) = false := beq_eq_false_iff_ne.2 h3
      have t4 : (k != 3) = true := bne_iff_ne.2 h3
      rw [if_neg h3] at hn_
      clear h3
      go_wp2_with fail
      refine (dnoRat_any _ r.s r.a r.b _ q2).mono ?_; rintro e w3 ⟨rfl, B3⟩
      clear i0 i1 i2 i3 i4 i5 i6 i7
      have S3 := S0.nx B3
      have q3 := q3.st B3
      have hn2 : (noR ⟨r.s, r.a, r.b⟩ && noR ⟨i.s, i.a, i.b⟩) = num := hn_
      clear hn_
      have i0 := S3.cell 0; have i1 := S3.cell 1; have i2 := S3.cell 2; have i3 := S3.cell 3; have i4 := S3.cell 4; have i5 := S3.cell 5; have i6 := S3.cell 6; have i7 := S3.cell 7
      cases hx : noR ⟨r.s, r.a, r.b⟩ with
      | false =>
        rw [hx] at hn2
        have hn2 := hn2.symm
        subst hn2
        go_wp2_with fail
        go_meet
        exact ⟨rfl, S3, bt C0 B3⟩
      | true =>
        rw [hx, Bool.true_and] at hn2
        go_wp2_with fail
        refine (dnoRat_any _ i.s i.a i.b _ q3).mono ?_; rintro e w4 ⟨rfl, B4⟩
        rw [hn2]
        go_wp2_with fail
        go_meet
        exact ⟨rfl, S3.nx B4, bt (bt C0 B3) B4⟩
  case rest =>
    obtain ⟨rfl, S3, C3⟩ := hcut
    generalize hw3 : wc = w3 at *
    clear hw3 S0 C0 q1 q2 q3
    go_upto_region 2 with fail
    go_cut [4] (fun s4 wx => s4 = .bool tx ∧ SB wx w.heap.size [.int .i64 k, .int .i64 n, .bool r.s, .slice A1 r.a.length c1, .slice D1 r.b.length d1, .bool i.s, .slice A2 i.a.length c2, .slice D2 i.b.length d2, .string t, .slice R rw_ rc, .slice L ll lc] ∧ Below w.heap.size w wx)
    case first =>
      have i0 := S3.cell 0
      have ht_ := htx.out
      unfold textK at ht_
      by_cases h5 : k = 5
      · have t5 : (k == 5) = true := by rw [h5]; rfl
        rw [decide_eq_true h5, Bool.true_or] at ht_
        subst ht_
        clear h5
        go_wp2_with fail
        go_meet
        exact ⟨rfl, S3, C3⟩
      · have t5 : (k == 5) = false := beq_eq_false_iff_ne.2 h5
        rw [decide_eq_false h5, Bool.false_or] at ht_
        clear h5
        by_cases h6 : k = 6
        · have t6 : (k == 6) = true := by rw [h6]; rfl
          rw [decide_eq_true h6, Bool.true_or] at ht_
          subst ht_
          clear h6
          go_wp2_with fail
          go_meet
          exact ⟨rfl, S3, C3⟩
        · have t6 : (k == 6) = false := beq_eq_false_iff_ne.2 h6
          rw [decide_eq_false h6, Bool.false_or] at ht_
          clear h6
          by_cases h11 : k = 11
          · have t11 : (k == 11) = true := by rw [h11]; rfl
            rw [decide_eq_true h11] at ht_
            subst ht_
            clear h11
            go_wp2_with fail
            go_meet
            exact ⟨rfl, S3, C3⟩
          · have t11 : (k == 11) = false := beq_eq_false_iff_ne.2 h11
            rw [decide_eq_false h11] at ht_
            subst ht_
            clear h11
            go_wp2_with fail
            go_meet
            exact ⟨rfl, S3, C3⟩
    case rest =>
      obtain ⟨rfl, S4, C4⟩ := hcut
      generalize hw4 : wc = w4 at *
      clear hw4 S3 C3
      obtain ⟨gd, hgd⟩ : ∃ gd, Hid ((num && ((tx || decide (t.size = 0)) && (vl && (decide (k = 7) || decide (rw_ = 0))))) = gd) := ⟨_, rfl⟩
      go_upto_region 3 with fail
      go_cut [70] (fun s70 wx => s70 = .bool (!gd) ∧ SB wx w.heap.size [.int .i64 k, .int .i64 n, .bool r.s, .slice A1 r.a.length c1, .slice D1 r.b.length d1, .bool i.s, .slice A2 i.a.length c2, .slice D2 i.b.length d2, .string t, .slice R rw_ rc, .slice L ll lc] ∧ Below w.heap.size w wx)
      case first =>
        have i0 := S4.cell 0
        have i8 := S4.cell 8
        have i9 := S4.cell 9
        have hg_ := hgd.out
        have hvc := hv w4 C4
        cases num with
        | false =>
          have hg_ := hg_.symm
          rw [Bool.false_and] at hg_
          subst hg_
          go_wp2_with fail
          go_meet
          exact ⟨rfl, S4, C4⟩
        | true =>
          rw [Bool.true_and] at hg_
          cases tx with
          | true =>
            rw [Bool.true_or, Bool.true_and] at hg_
            go_wp2_with fail
            refine hvc.mono ?_; rintro e w5 ⟨rfl, B5⟩
            clear hvc i0 i8 i9
            have S5 := S4.nx B5
            have i0 := S5.cell 0
            have i9 := S5.cell 9
            cases vl with
            | false =>
              rw [Bool.false_and] at hg_
              subst hg_
              go_wp2_with fail
              go_meet
              exact ⟨rfl, S5, bt C4 B5⟩
            | true =>
              rw [Bool.true_and] at hg_
              by_cases h7 : k = 7
              · have t7 : (k != 7) = false := by rw [h7]; rfl
                rw [decide_eq_true h7, Bool.true_or] at hg_
                subst hg_
                clear h7
                go_wp2_with fail
                go_meet
                exact ⟨rfl, S5, bt C4 B5⟩
              · have t7 : (k != 7) = true := bne_iff_ne.2 h7
                rw [decide_eq_false h7, Bool.false_or] at hg_
                clear h7
                by_cases h0 : rw_ = 0
                · have g1 : decide (0 < (rw_ : Int)) = false := decide_eq_false (by omega)
                  have g2 : ¬ (0 < (rw_ : Int)) := by omega
                  rw [decide_eq_true h0] at hg_
                  subst hg_
                  clear h0
                  go_wp2_with fail
                  go_meet
                  exact ⟨by rw [decide_eq_false (show ¬ 0 < rw_ by omega)]; rfl, S5, bt C4 B5⟩
                · have g1 : decide (0 < (rw_ : Int)) = true := decide_eq_true (by omega)
                  have g2 : 0 < (rw_ : Int) := by omega
                  rw [decide_eq_false h0] at hg_
                  subst hg_
                  clear h0
                  go_wp2_with fail
                  go_meet
                  exact ⟨by rw [decide_eq_true (show 0 < rw_ by omega)]; rfl, S5, bt C4 B5⟩
          | false =>
            rw [Bool.false_or] at hg_
            by_cases h8 : t.size = 0
            · have l8 : t.toList = [] := by rw [Lib.toList_data]; exact List.eq_nil_of_length_eq_zero (by rw [← Lib.size_eq]; exact h8)
              rw [decide_eq_true h8, Bool.true_and] at hg_
              clear h8
              go_wp2_with fail
              refine hvc.mono ?_; rintro e w5 ⟨rfl, B5⟩
              clear hvc i0 i8 i9
              have S5 := S4.nx B5
              have i0 := S5.cell 0
              have i9 := S5.cell 9
              cases vl with
              | false =>
                rw [Bool.false_and] at hg_
                subst hg_
                go_wp2_with fail
                go_meet
                exact ⟨rfl, S5, bt C4 B5⟩
              | true =>
                rw [Bool.true_and] at hg_
                by_cases h7 : k = 7
                · have t7 : (k != 7) = false := by rw [h7]; rfl
                  rw [decide_eq_true h7, Bool.true_or] at hg_
                  subst hg_
                  clear h7
                  go_wp2_with fail
                  go_meet
                  exact ⟨rfl, S5, bt C4 B5⟩
                · have t7 : (k != 7) = true := bne_iff_ne.2 h7
                  rw [decide_eq_false h7, Bool.false_or] at hg_
                  clear h7
                  by_cases h0 : rw_ = 0
                  · have g1 : decide (0 < (rw_ : Int)) = false := decide_eq_false (by omega)
                    have g2 : ¬ (0 < (rw_ : Int)) := by omega
                    rw [decide_eq_true h0] at hg_
                    subst hg_
                    clear h0
                    go_wp2_with fail
                    go_meet
                    exact ⟨by rw [decide_eq_false (show ¬ 0 < rw_ by omega)]; rfl, S5, bt C4 B5⟩
                  · have g1 : decide (0 < (rw_ : Int)) = true := decide_eq_true (by omega)
                    have g2 : 0 < (rw_ : Int) := by omega
                    rw [decide_eq_false h0] at hg_
                    subst hg_
                    clear h0
                    go_wp2_with fail
                    go_meet
                    exact ⟨by rw [decide_eq_true (show 0 < rw_ by omega)]; rfl, S5, bt C4 B5⟩
            · have l8 : ¬ t.toList = [] := fun e => h8 (by rw [Lib.size_eq, ← Lib.toList_data, e]; rfl)
              rw [decide_eq_false h8, Bool.false_and] at hg_
              subst hg_
              clear h8
              go_wp2_with fail
              go_meet
              exact ⟨rfl, S4, C4⟩
      case rest =>
        obtain ⟨rfl, S5, C5⟩ := hcut
        generalize hw5 : wc = w5 at *
        clear hw5 S4 C4
        have hz_ : (gd && (if k = 8 then decide (n = 0) && decide (ll = 2) else if k = 9 then decide (n = 0) else if k = 2 then decide (n = 0 ∨ n = 1) && decide (ll = 0)
            else if k = 4 then isCharB n && decide (ll = 0) else decide (1 ≤ k ∧ k ≤ 11) && (decide (n = 0) && decide (ll = 0)))) = z := by
          rw [← hz.out, ← hgd.out]
          simp only [Bool.and_assoc]
        clear hz hgd hnum htx hv
        have i0 := S5.cell 0
        have i1 := S5.cell 1
        have i10 := S5.cell 10
        cases gd with
        | false =>
          rw [Bool.false_and] at hz_
          subst hz_
          go_wp2_with fail
          go_ret
          exact ⟨rfl, C5⟩
        | true =>
          rw [Bool.true_and] at hz_
          rw [Bool.not_true]
          by_cases h8 : k = 8
          · have t8 : (k == 8) = true := by rw [h8]; rfl
            rw [if_pos h8] at hz_
            clear h8
            by_cases hn0 : n = 0
            · have tn : (n == 0) = true := by rw [hn0]; rfl
              rw [decide_eq_true hn0, Bool.true_and] at hz_
              clear hn0
              by_cases hl0 : ll = 2
              · have tl : ((ll : Int) == 2) = true := by rw [hl0]; rfl
                rw [decide_eq_true hl0] at hz_
                subst hz_
                clear hl0
                go_wp2_with fail
                go_ret
                exact ⟨rfl, C5⟩
              · have tl : ((ll : Int) == 2) = false := beq_eq_false_iff_ne.2 (by omega)
                rw [decide_eq_false hl0] at hz_
                subst hz_
                clear hl0
                go_wp2_with fail
                go_ret
                exact ⟨rfl, C5⟩
            · have tn : (n == 0) = false := beq_eq_false_iff_ne.2 hn0
              rw [decide_eq_false hn0, Bool.false_and] at hz_
              subst hz_
              clear hn0
              go_wp2_with fail
              go_ret
              exact ⟨rfl, C5⟩
          · skip
            by_cases h9 : k = 9
            · have t9 : (k == 9) = true := by rw [h9]; rfl
              have t8 : (k == 8) = false := beq_eq_false_iff_ne.2 h8
              rw [if_neg h8, if_pos h9] at hz_
              clear h8 h9
              by_cases hn0 : n = 0
              · have tn : (n == 0) = true := by rw [hn0]; rfl
                rw [decide_eq_true hn0] at hz_
                subst hz_
                clear hn0
                go_wp2_with fail
                go_ret
                exact ⟨rfl, C5⟩
              · have tn : (n == 0) = false := beq_eq_false_iff_ne.2 hn0
                rw [decide_eq_false hn0] at hz_
                subst hz_
                clear hn0
                go_wp2_with fail
                go_ret
                exact ⟨rfl, C5⟩
            · skip
              by_cases h2 : k = 2
              · have t2 : (k == 2) = true := by rw [h2]; rfl
                have t8 : (k == 8) = false := beq_eq_false_iff_ne.2 h8
                have t9 : (k == 9) = false := beq_eq_false_iff_ne.2 h9
                rw [if_neg h8, if_neg h9, if_pos h2] at hz_
                clear h8 h9 h2
                by_cases hn0 : n = 0 ∨ n = 1
                · have tn : (n / 2 == 0) = true := by rw [beq_iff_eq]; omega
                  rw [decide_eq_true hn0, Bool.true_and] at hz_
                  clear hn0
                  by_cases hl0 : ll = 0
                  · have tl : ((ll : Int) == 0) = true := by rw [hl0]; rfl
                    rw [decide_eq_true hl0] at hz_
                    subst hz_
                    clear hl0
                    go_wp2_with fail
                    go_ret
                    exact ⟨rfl, C5⟩
                  · have tl : ((ll : Int) == 0) = false := beq_eq_false_iff_ne.2 (by omega)
                    rw [decide_eq_false hl0] at hz_
                    subst hz_
                    clear hl0
                    go_wp2_with fail
                    go_ret
                    exact ⟨rfl, C5⟩
                · have tn : (n / 2 == 0) = false := beq_eq_false_iff_ne.2 (by omega)
                  rw [decide_eq_false hn0, Bool.false_and] at hz_
                  subst hz_
                  clear hn0
                  go_wp2_with fail
                  go_ret
                  exact ⟨rfl, C5⟩
              · skip
                by_cases h4 : k = 4
                · have t4 : (k == 4) = true := by rw [h4]; rfl
                  have t8 : (k == 8) = false := beq_eq_false_iff_ne.2 h8
                  have t9 : (k == 9) = false := beq_eq_false_iff_ne.2 h9
                  have t2 : (k == 2) = false := beq_eq_false_iff_ne.2 h2
                  rw [if_neg h8, if_neg h9, if_neg h2, if_pos h4] at hz_
                  clear h8 h9 h2 h4
                  have hc := fun w' => disChar_any n w'
                  cases hx : isCharB n with
                  | false =>
                    rw [hx] at hc hz_
                    rw [Bool.false_and] at hz_
                    subst hz_
                    clear hx
                    go_wp2_with fail
                    refine (hc _).mono ?_; rintro e w6 ⟨rfl, rfl⟩
                    go_wp2_with fail
                    go_ret
                    exact ⟨rfl, C5⟩
                  | true =>
                    rw [hx] at hc hz_
                    rw [Bool.true_and] at hz_
                    clear hx
                    go_wp2_with fail
                    refine (hc _).mono ?_; rintro e w6 ⟨rfl, rfl⟩
                    by_cases hl0 : ll = 0
                    · have tl : ((ll : Int) == 0) = true := by rw [hl0]; rfl
                      rw [decide_eq_true hl0] at hz_
                      subst hz_
                      clear hl0
                      go_wp2_with fail
                      go_ret
                      exact ⟨rfl, C5⟩
                    · have tl : ((ll : Int) == 0) = false := beq_eq_false_iff_ne.2 (by omega)
                      rw [decide_eq_false hl0] at hz_
                      subst hz_
                      clear hl0
                      go_wp2_with fail
                      go_ret
                      exact ⟨rfl, C5⟩
                · skip
                  have t8 : (k == 8) = false := beq_eq_false_iff_ne.2 h8
                  have t9 : (k == 9) = false := beq_eq_false_iff_ne.2 h9
                  have t2 : (k == 2) = false := beq_eq_false_iff_ne.2 h2
                  have t4 : (k == 4) = false := beq_eq_false_iff_ne.2 h4
                  rw [if_neg h8, if_neg h9, if_neg h2, if_neg h4] at hz_
                  clear h8 h9 h2 h4
                  by_cases hr : 1 ≤ k ∧ k ≤ 11
                  · have g1 : decide (1 ≤ k) = true := decide_eq_true hr.1
                    have g2 : decide (k ≤ 11) = true := decide_eq_true hr.2
                    rw [decide_eq_true hr, Bool.true_and] at hz_
                    by_cases hn0 : n = 0
                    · have tn : (n == 0) = true := by rw [hn0]; rfl
                      rw [decide_eq_true hn0, Bool.true_and] at hz_
                      clear hn0
                      by_cases hl0 : ll = 0
                      · have tl : ((ll : Int) == 0) = true := by rw [hl0]; rfl
                        rw [decide_eq_true hl0] at hz_
                        subst hz_
                        clear hl0
                        go_wp2_with fail
                        go_ret
                        exact ⟨rfl, C5⟩
                      · have tl : ((ll : Int) == 0) = false := beq_eq_false_iff_ne.2 (by omega)
                        rw [decide_eq_false hl0] at hz_
                        subst hz_
                        clear hl0
                        go_wp2_with fail
                        go_ret
                        exact ⟨rfl, C5⟩
                    · have tn : (n == 0) = false := beq_eq_false_iff_ne.2 hn0
                      rw [decide_eq_false hn0, Bool.false_and] at hz_
                      subst hz_
                      clear hn0
                      go_wp2_with fail
                      go_ret
                      exact ⟨rfl, C5⟩
                  · rw [decide_eq_false hr, Bool.false_and] at hz_
                    subst hz_
                    by_cases hr1 : 1 ≤ k
                    · have g1 : decide (1 ≤ k) = true := decide_eq_true hr1
                      have g2 : decide (k ≤ 11) = false := decide_eq_false (fun h => hr ⟨hr1, h⟩)
                      clear hr
                      go_wp2_with fail
                      go_ret
                      exact ⟨rfl, C5⟩
                    · have g1 : decide (1 ≤ k) = false := decide_eq_false hr1
                      clear hr
                      go_wp2_with fail
                      go_ret
                      exact ⟨rfl, C5⟩

end Go.Proofs.YtilhnjecnhpmlaaDoor
namespace Go.Proofs.YtilhnjecnhpmlaaDoor
open Go.RowKit

theorem size_sc (b : Nat) (vs : List Value) : ∀ (o : Nat) (w : World), (w.setCells b o vs).heap.size = w.heap.size := by
  induction vs with
  | nil => exact fun _ _ => rfl
  | cons v vs ih => exact fun o w => (ih (o + 1) _).trans (by simp [World.setCell])
theorem tape_sc (b : Nat) (vs : List Value) : ∀ (o : Nat) (w : World), (w.setCells b o vs).tape = w.tape := by
  induction vs with
  | nil => exact fun _ _ => rfl
  | cons v vs ih => exact fun o w => ih (o + 1) _
theorem infoD : (Tryd.prog.info? 31).map (·.size) = some 11 := by kernel_rfl
/-- a datum stored into a block of eleven cells, as one step -/
theorem wp_stD {ops : Array Oper} {rest : List Oper} {o : Oper} {a : Act} {w : World} {Q : Exit → Act → World → Prop} (hgd : o.guard = none) (hdn : o.dst = none) (x y : Operand) (ho : o.op = .store 31 x y)
    (b : Nat) (hx : a.eval x = .pointer (some ⟨b, 0, none⟩)) (cs : List Value) (hy : a.eval y = .agg cs.toArray) (hl : cs.length = 11) (cs' : List Value) (hS : SB w b cs') (hl' : cs'.length = 11) (h1 : ∀ v ∈ cs, v.oneCell' = true)
    (h : wpList Tryd.prog ops Q rest a (w.setCells b 0 cs)) : wpList Tryd.prog ops Q (o :: rest) a w :=
  wpList_store_mid hgd 31 x y ho b 0 cs.toArray hx hy
    (fun j hj => by
      have hj' : j < cs'.length := by rw [hl', ← hl]; simpa using hj
      have h2 := hS.1 j cs'[j] (List.getElem?_eq_getElem hj')
      rw [Nat.zero_add]
      exact ⟨by rw [h2.1]; rfl, h2.2⟩) (by rw [infoD]; simp [hl]) (all_oneCell_toArray h1) (by rw [hdn]; exact h)
theorem SB.cells {w : World} {b : Nat} {cs' : List Value} (h : SB w b cs') (cs : List Value) (hl : cs.length = cs'.length) : SB (w.setCells b 0 cs) b cs := by
  refine ⟨fun i v hv => ?_, by have := h.2; rw [size_sc]; exact this⟩
  have hi : i < cs.length := (List.getElem?_eq_some_iff.1 hv).1
  have h0 : ∀ j, j < cs.length → (w.cell? ⟨b, 0 + j, none⟩).isSome = true := fun j hj => by
    rw [Nat.zero_add, (h.1 j cs'[j] (List.getElem?_eq_getElem (by omega))).1]; rfl
  have h1 := World.cell?_setCells_in b cs 0 w h0 i hi
  rw [Nat.zero_add] at h1
  refine ⟨by rw [h1, ← hv, List.getElem?_eq_getElem hi], ?_⟩
  rw [World.frozen?_setCells]
  exact (h.1 i cs'[i] (List.getElem?_eq_getElem (by omega))).2
theorem SB.cells_far {w : World} {b g : Nat} {vs : List Value} (h : SB w b vs) (hne : b ≠ g) (cs : List Value) : SB (w.setCells g 0 cs) b vs := by
  refine ⟨fun i v hv => ?_, by have := h.2; rw [size_sc]; exact this⟩
  obtain ⟨h1, h2⟩ := h.1 i v hv
  exact ⟨(World.cell?_setCells_out g cs 0 w ⟨b, i, none⟩ (fun e => absurd e hne)).trans h1, (World.frozen?_setCells g cs 0 w _).trans h2⟩
theorem SB.grown {w w' : World} {g b : Nat} {vs : List Value} (h : SB w b vs) (hg : w.grownBy w' (some g)) (hb : b ≠ g) : SB w' b vs := by
  have he := hg.block b h.2 (by simpa using hb)
  refine ⟨fun i v hv => ⟨hg.cell (h.1 i v hv).1 (by simpa using hb), ?_⟩, Nat.lt_of_lt_of_le h.2 hg.size⟩
  have hf := (h.1 i v hv).2
  unfold World.frozen? at hf ⊢
  rw [he]
  exact hf
theorem grown_cells {w w' : World} {g b : Nat} (h : w.grownBy w' (some g)) (hb : w.heap.size ≤ b) (cs : List Value) : w.grownBy (w'.setCells b 0 cs) (some g) :=
  ⟨(World.os_setCells w' b 0 cs).trans h.os, (tape_sc b cs 0 w').trans h.tape, (World.output_setCells w' b 0 cs).trans h.output, by rw [size_sc]; exact h.size,
    fun i hi hne => (World.heap_setCells_other w' b 0 cs (Nat.lt_of_lt_of_le hi h.size) (by omega)).trans (h.block i hi hne)⟩
theorem grown_below {w w' : World} {g B : Nat} (h : w.grownBy w' (some g)) (hB : B ≤ g) (hB' : B ≤ w.heap.size) : Below B w w' := (Below.refl B w).grown h hB' (fun k hk => by cases hk; exact hB)
theorem RD.agg {w : World} {B : Nat} {d : Dat} {v : Value} (h : RD w B d v) : ∃ cs : List Value, v = .agg cs.toArray ∧ cs.length = 11 ∧ ∀ u ∈ cs, u.oneCell' = true := by
  obtain ⟨A1, c1, D1, d1, A2, c2, D2, d2, R, rc, L, lc, e, -⟩ := h.view
  refine ⟨_, e, rfl, fun u hu => ?_⟩
  simp only [List.mem_cons, List.not_mem_nil, or_false] at hu
  rcases hu with rfl | rfl | rfl | rfl | rfl | rfl | rfl | rfl | rfl | rfl | rfl <;> rfl
end Go.Proofs.YtilhnjecnhpmlaaDoor
namespace Go.Proofs.YtilhnjecnhpmlaaDoor
open Go.RowKit

/-- what ValidString answers, in every world behind this one whose blocks below B are as they were -/
def VS (valid : ByteArray → Bool) (B : Nat) (w : World) : Prop := ∀ (s : ByteArray) (w' : World), s.size ≤ 1048576 → Below B w w' →
  Calls Tryd.prog 73 #[.string s] w' fun e w'' => e = .returned (.bool (valid s)) ∧ Below w'.heap.size w' w''
section
variable {valid : ByteArray → Bool} {B B' : Nat} {w w' : World}
theorem VS.st (h : VS valid B w) (hb : Below B w w') : VS valid B w' := fun s w2 hs h2 => h s w2 hs (hb.trans h2)
theorem VS.more (h : VS valid B w) (hB : B ≤ B') : VS valid B' w := fun s w2 hs h2 => h s w2 hs (h2.mono hB)
theorem cnt_bad {d : Dat} {depth : Nat} {left : Int} (h : 200 < depth ∨ left ≤ 0 ∨ d.shape valid = false) : d.cnt valid depth left = -1 := by rw [Dat.cnt_eq, if_pos h]
theorem cnt_good {d : Dat} {depth : Nat} {left : Int} (h1 : depth ≤ 200) (h2 : 0 < left) (h3 : d.shape valid = true) : d.cnt valid depth left = cntL valid d.l (decide (d.k = 8)) 0 depth (left - 1) := by
  rw [Dat.cnt_eq, if_neg (by rw [h3]; simp; omega)]
theorem pair_two {d : Dat} (h : d.shape valid = true) (hk : d.k = 8) : ∃ x y, d.l = [x, y] := by
  unfold Dat.shape at h
  simp only [Bool.and_eq_true] at h
  have h5 := h.2.2.2.2
  rw [if_pos hk, Bool.and_eq_true, decide_eq_true_eq, decide_eq_true_eq] at h5
  match hl : d.l, h5.2 with
  | [x, y], _ => exact ⟨x, y, rfl⟩
theorem cnt_pair {d x y : Dat} (hl : d.l = [x, y]) (hk : d.k = 8) (dp : Nat) (left : Int) : cntL valid d.l (decide (d.k = 8)) 0 dp left = y.cnt valid dp (x.cnt valid (dp + 1) left) := by
  rw [hl, decide_eq_true hk]
  simp [cntL, inner]
theorem grown_set {g : Nat} (h : w.grownBy w' (some g)) (k : Nat) (u : Value) : w.grownBy (w'.setCell ⟨g, k, none⟩ u) (some g) :=
  ⟨h.os, h.tape, h.output, by simpa [World.setCell] using h.size, fun j hj hne => (Below.heap_setCell w' ⟨g, k, none⟩ u j (fun e => hne (by rw [e]))).trans (h.block j hj hne)⟩
theorem grown_bel {w2 : World} {r : Option Nat} (h : w.grownBy w' r) (hb : Below w'.heap.size w' w2) : w.grownBy w2 r :=
  ⟨hb.os.trans h.os, hb.tape.trans h.tape, hb.output.trans h.output, Nat.le_trans h.size hb.size, fun i hi hne => (hb.block i (Nat.lt_of_lt_of_le hi h.size)).trans (h.block i hi hne)⟩
theorem below_sc {B b : Nat} (h : Below B w w') (hb : B ≤ b) (cs : List Value) : Below B w (w'.setCells b 0 cs) :=
  ⟨(World.os_setCells w' b 0 cs).trans h.os, (tape_sc b cs 0 w').trans h.tape, (World.output_setCells w' b 0 cs).trans h.output, by rw [size_sc]; exact h.size, fun i hi => by
    by_cases hlt : i < w'.heap.size
    · exact (World.heap_setCells_other w' b 0 cs hlt (by omega)).trans (h.block i hi)
    · rw [Array.getElem?_eq_none (by rw [size_sc]; omega), ← h.block i hi, Array.getElem?_eq_none (by omega)]⟩
theorem cntL_cons {x : Dat} {l : List Dat} (i dp : Nat) (left : Int) : cntL valid (x :: l) false i dp left = cntL valid l false (i + 1) dp (x.cnt valid (dp + 1) left) := by
  rw [cntL]
  simp [inner]
theorem cnt_le2 (d : Dat) (dp : Nat) (left : Int) (h : 0 ≤ d.cnt valid dp left) : d.cnt valid dp left ≤ left := by
  rcases Dat.cnt_le valid d dp left with h1 | h1 <;> omega
end

set_option maxRecDepth 100000 in
set_option maxHeartbeats 8000000 in
theorem dsound_go (valid : ByteArray → Bool) (m : Nat) : ∀ (d : Dat), SizeOf.sizeOf d ≤ m → ∀ (v : Value) (D : Int) (dp : Nat) (left : Int) (g : Nat) (w : World), D = (dp : Int) → RD w g d v → SB w g [.int .i64 left] → 1 ≤ dp ∧ dp ≤ 201 → 0 ≤ left ∧ left ≤ 20000 → VS valid g w →
    Calls Tryd.prog 43 #[v, .int .i64 D, .pointer (some ⟨g, 0, none⟩)] w fun e w' => e = .returned (.bool (decide (0 ≤ d.cnt valid dp left))) ∧ (0 ≤ d.cnt valid dp left → SB w' g [.int .i64 (d.cnt valid dp left)]) ∧ w.grownBy w' (some g) := by
  induction m with
  | zero =>
    intro d hd
    exfalso
    cases d
    simp only [Dat.mk.sizeOf_spec] at hd
    omega
  | succ m ih =>
    intro d hd v D dp left g w hD hR hS hdp hl hV
    subst hD
    obtain ⟨T, hT⟩ : ∃ T, Hid (d.cnt valid dp left = T) := ⟨_, rfl⟩
    rw [hT.out]
    have hgw := hS.2
    obtain ⟨A1, c1, D1, d1, A2, c2, D2, d2, R, rc, L, lc, rfl, -⟩ := hR.view
    have S0 := SB.new w [.int .i64 d.k, .int .i64 d.n, .bool d.re.s, .slice A1 d.re.a.length c1, .slice D1 d.re.b.length d1, .bool d.im.s, .slice A2 d.im.a.length c2, .slice D2 d.im.b.length d2, .string d.t, .slice R d.raw.length rc, .slice L d.l.length lc] 31
    obtain ⟨W0, hW0⟩ : ∃ W0, W0 = w.alloc (.cells #[.int .i64 d.k, .int .i64 d.n, .bool d.re.s, .slice A1 d.re.a.length c1, .slice D1 d.re.b.length d1, .bool d.im.s, .slice A2 d.im.a.length c2, .slice D2 d.im.b.length d2, .string d.t, .slice R d.raw.length rc, .slice L d.l.length lc] 31) := ⟨_, rfl⟩
    have B0 : Below w.heap.size w W0 := by rw [hW0]; exact bal _ _
    have G0 : w.grownBy W0 (some g) := by rw [hW0]; exact World.grownBy_alloc _ _ _
    have R0 := RD.step (B0.mono (Nat.le_of_lt hgw)) (Nat.le_refl _) hR
    have C0 := hS.nx B0
    go_enter Tryd.func43, Tryd.ntmps43
    go_upto_region 1 with fail
    rw [← hW0] at S0 ⊢
    clear hW0 hR hS B0
    go_loopg [] (SizeOf.sizeOf d) (fun gk wx => ∃ (d' : Dat) (v' : Value) (cs : List Value) (left' : Int), SizeOf.sizeOf d' ≤ gk ∧ SizeOf.sizeOf d' ≤ m + 1 ∧ v' = .agg cs.toArray ∧ RD wx g d' v' ∧ SB wx w.heap.size cs ∧ SB wx g [.int .i64 left'] ∧ (0 ≤ left' ∧ left' ≤ 20000) ∧ Hid (d'.cnt valid dp left' = T) ∧ w.grownBy wx (some g))
    case atStart => exact ⟨d, _, _, left, Nat.le_refl _, hd, rfl, R0, S0, C0, hl, hT, G0⟩
    case round =>
      obtain ⟨d', v', cs, left', hk1, hk2, hcs, R1, S1, C1, hl1, hT1, G1⟩ := hrel
      clear R0 S0 C0 G0 hT
      obtain ⟨A1', c1', D1', d1', A2', c2', D2', d2', R', rc', L', lc', hv, -⟩ := R1.view
      have hcs2 : cs = [.int .i64 d'.k, .int .i64 d'.n, .bool d'.re.s, .slice A1' d'.re.a.length c1', .slice D1' d'.re.b.length d1', .bool d'.im.s, .slice A2' d'.im.a.length c2', .slice D2' d'.im.b.length d2', .string d'.t, .slice R' d'.raw.length rc', .slice L' d'.l.length lc'] := by
        rw [hcs] at hv
        exact congrArg Array.toList (Value.agg.inj hv)
      subst hcs2
      subst hv
      clear hcs
      have i0 := C1.cell 0
      have f0 := C1.frozen 0
      by_cases h0 : left' ≤ 0
      · obtain rfl : left' = 0 := by omega
        have hTe : Hid (T = -1) := Lib.hid (by rw [← hT1.out]; exact cnt_bad (.inr (.inl (Int.le_refl 0))))
        have G2 := grown_set G1 0 (.int .i64 (-1))
        clear hT1
        go_wp2_with fail
        go_ret
        exact ⟨by rw [hTe.out]; rfl, fun h => absurd h (by rw [hTe.out]; omega), G2⟩
      · have hlw : IntKind.i64.wrap (left' - 1) = left' - 1 := IntWalk.i64_in _ (by omega)
        have hlt : ¬ left' - 1 < 0 := by omega
        have Sa := S1.far (p := ⟨g, 0, none⟩) (by show w.heap.size ≠ g; omega) (.int .i64 (left' - 1))
        have Ca := C1.set 0 (.int .i64 (left' - 1))
        have Ga := grown_set G1 0 (.int .i64 (left' - 1))
        have Ra := RD.step ((Below.refl g wr).setCell (p := ⟨g, 0, none⟩) (Nat.le_refl _) (.int .i64 (left' - 1))) (Nat.le_refl _) R1
        go_upto_region 2 with fail
        obtain ⟨wa, hwa⟩ : ∃ wa, wa = wr.setCell ⟨g, 0, none⟩ (.int .i64 (left' - 1)) := ⟨_, rfl⟩
        rw [← hwa] at Sa Ca Ga Ra ⊢
        clear hwa i0 f0 S1 C1 G1 R1
        have a0 := Ca.cell 0
        have t1 : decide (left' - 1 < 0) = false := decide_eq_false hlt
        by_cases hd2 : 200 < dp
        · have hTe : Hid (T = -1) := Lib.hid (by rw [← hT1.out]; exact cnt_bad (.inl hd2))
          have t2 : decide (200 < (dp : Int)) = true := decide_eq_true (by omega)
          have t3 : 200 < (dp : Int) := by omega
          clear hT1
          go_wp2_with fail
          go_ret
          exact ⟨by rw [hTe.out]; rfl, fun h => absurd h (by rw [hTe.out]; omega), Ga⟩
        · have t2 : decide (200 < (dp : Int)) = false := decide_eq_false (by omega)
          have t3 : ¬ 200 < (dp : Int) := by omega
          have i0 := Sa.cell 0
          have i1 := Sa.cell 1
          have i2 := Sa.cell 2
          have i3 := Sa.cell 3
          have i4 := Sa.cell 4
          have i5 := Sa.cell 5
          have i6 := Sa.cell 6
          have i7 := Sa.cell 7
          have i8 := Sa.cell 8
          have i9 := Sa.cell 9
          have i10 := Sa.cell 10
          have gsz := Ca.2
          have hsh := dshape_any valid d' _ wa (RD.step (Below.refl _ _) (Nat.le_of_lt gsz) Ra) (fun w' hb => hV d'.t w' (by obtain ⟨_, _, _, _, _, _, _, _, _, _, _, _, _, _, hh, _⟩ := Ra.view; exact hh.2.2) ((grown_below Ga (Nat.le_refl _) (Nat.le_of_lt hgw)).trans (hb.mono (Nat.le_of_lt gsz))))
          go_wp2_with fail
          refine hsh.mono ?_; rintro e w5 ⟨rfl, B5⟩
          clear i0 i1 i2 i3 i4 i5 i6 i7 i8 i9 i10 a0 hsh
          have S5 := Sa.nx B5
          have C5 := Ca.nx B5
          have G5 := grown_bel Ga B5
          have R5 := RD.step (B5.mono (Nat.le_of_lt gsz)) (Nat.le_refl _) Ra
          clear Sa Ca Ga Ra
          cases hx : d'.shape valid with
          | false =>
            have hTe : Hid (T = -1) := Lib.hid (by rw [← hT1.out]; exact cnt_bad (.inr (.inr hx)))
            clear hT1 hx
            go_wp2_with fail
            go_ret
            exact ⟨by rw [hTe.out]; rfl, fun h => absurd h (by rw [hTe.out]; omega), G5⟩
          | true =>
            have hT5 : cntL valid d'.l (decide (d'.k = 8)) 0 dp (left' - 1) = T := by rw [← hT1.out]; exact (cnt_good (by omega) (by omega) hx).symm
            clear hT1
            have i0 := S5.cell 0
            have i10 := S5.cell 10
            by_cases h8 : d'.k = 8
            · have t8 : (d'.k != 8) = false := by rw [h8]; rfl
              obtain ⟨x, y, hxy⟩ := pair_two hx h8
              rw [cnt_pair hxy h8] at hT5
              replace hT5 := Lib.hid hT5
              have hll : d'.l.length = 2 := by rw [hxy]; rfl
              obtain ⟨_, _, _, _, _, _, _, _, _, _, _, _, hvv, _, _, _, hds⟩ := R5.view
              obtain ⟨b, off, hL, hbg, hds⟩ := hds (by omega)
              have hLL : L' = some ⟨b, off, none⟩ := by
                have := congrArg Array.toList (Value.agg.inj hvv)
                simp only [List.cons.injEq, Value.slice.injEq] at this
                rw [this.2.2.2.2.2.2.2.2.2.2.1.1]
                exact hL
              subst hLL
              clear hvv hL
              rw [hxy] at hds
              go_upto_region 5 with fail
              obtain ⟨vx, Rx, hcx⟩ := hds.get (i := 0) (x := x) rfl
              obtain ⟨vy, Ry, hcy⟩ := hds.get (i := 1) (x := y) rfl
              obtain ⟨xs, rfl, hxl, hxo⟩ := Rx.agg
              obtain ⟨ys, rfl, hyl, hyo⟩ := Ry.agg
              match xs, hxl with
              | [x0, x1, x2, x3, x4, x5, x6, x7, x8, x9, x10], _ =>
              have hcx : ∀ (j : Nat) (u : Value), [x0, x1, x2, x3, x4, x5, x6, x7, x8, x9, x10][j]? = some u → w5.cell? ⟨b, off + j, none⟩ = some u := fun j u hj => by have := hcx _ rfl j u (by simpa using hj); simpa using this
              have k0 := hcx 0 _ rfl
              have k1 := hcx 1 _ rfl
              have k2 := hcx 2 _ rfl
              have k3 := hcx 3 _ rfl
              have k4 := hcx 4 _ rfl
              have k5 := hcx 5 _ rfl
              have k6 := hcx 6 _ rfl
              have k7 := hcx 7 _ rfl
              have k8 := hcx 8 _ rfl
              have k9 := hcx 9 _ rfl
              have k10 := hcx 10 _ rfl
              simp only [Nat.add_zero] at k0
              clear hcx
              have hlx : ((d'.l.length : Nat) : Int) = 2 := by rw [hll]; rfl
              go_wp2_with fail
              refine (ih x (by have := Dat.lt_of_mem (d := d') (x := x) (by rw [hxy]; simp); omega) _ _ (dp + 1) (left' - 1) g w5 (by omega) Rx C5 (by omega) (by omega) (hV.st (grown_below G5 (Nat.le_refl _) (Nat.le_of_lt hgw)))).mono ?_
              rintro e w6 ⟨rfl, hC6, G6⟩
              clear k0 k1 k2 k3 k4 k5 k6 k7 k8 k9 k10 i0 i10
              by_cases hc : 0 ≤ x.cnt valid (dp + 1) (left' - 1)
              · have hc20 := cnt_le2 _ _ _ hc
                have C6 := hC6 hc
                rw [decide_eq_true hc]
                generalize x.cnt valid (dp + 1) (left' - 1) = c1 at *
                have S6 := S5.grown G6 (by omega)
                have B6 := grown_below G6 (Nat.le_refl _) (Nat.le_of_lt C5.2)
                have Ry6 := RD.step B6 (Nat.le_refl _) Ry
                have G6' := G5.trans G6
                match ys, hyl, hyo with
                | [x0, x1, x2, x3, x4, x5, x6, x7, x8, x9, x10], _, hyo =>
                have hcy : ∀ (j : Nat) (u : Value), [x0, x1, x2, x3, x4, x5, x6, x7, x8, x9, x10][j]? = some u → w6.cell? ⟨b, off + 11 + j, none⟩ = some u := fun j u hj => (B6.cell (p := ⟨b, off + 11 + j, none⟩) hbg).trans (by have := hcy _ rfl j u (by simpa using hj); simpa using this)
                have k0 := hcy 0 _ rfl
                have k1 := hcy 1 _ rfl
                have k2 := hcy 2 _ rfl
                have k3 := hcy 3 _ rfl
                have k4 := hcy 4 _ rfl
                have k5 := hcy 5 _ rfl
                have k6 := hcy 6 _ rfl
                have k7 := hcy 7 _ rfl
                have k8 := hcy 8 _ rfl
                have k9 := hcy 9 _ rfl
                have k10 := hcy 10 _ rfl
                simp only [Nat.add_zero] at k0
                have i10 := S6.cell 10
                have S7 := S6.cells [x0, x1, x2, x3, x4, x5, x6, x7, x8, x9, x10] rfl
                have C7 := C6.cells_far (g := w.heap.size) (by omega) [x0, x1, x2, x3, x4, x5, x6, x7, x8, x9, x10]
                have G7 := grown_cells G6' (Nat.le_refl _) [x0, x1, x2, x3, x4, x5, x6, x7, x8, x9, x10]
                have R7 := RD.step (below_sc (Below.refl g w6) (Nat.le_of_lt hgw) [x0, x1, x2, x3, x4, x5, x6, x7, x8, x9, x10]) (Nat.le_refl _) Ry6
                obtain ⟨w7, hw7⟩ : ∃ w7, w7 = w6.setCells w.heap.size 0 [x0, x1, x2, x3, x4, x5, x6, x7, x8, x9, x10] := ⟨_, rfl⟩
                rw [← hw7] at S7 C7 G7 R7
                replace hw7 := Lib.hid hw7
                clear hcy
                go_wp2_with (refine wp_stD rfl rfl (.tmp 3) (.tmp 42) rfl w.heap.size rfl [x0, x1, x2, x3, x4, x5, x6, x7, x8, x9, x10] rfl rfl _ S6 rfl hyo ?_; rw [← hw7.out])
                go_roundg (SizeOf.sizeOf y)
                case measure =>
                  have := Dat.lt_of_mem (d := d') (x := y) (by rw [hxy]; simp)
                  omega
                case rel => exact ⟨y, _, _, c1, Nat.le_refl _, by have := Dat.lt_of_mem (d := d') (x := y) (by rw [hxy]; simp); omega, rfl, R7, S7, C7, ⟨hc, by omega⟩, hT5, G7⟩
              · have hTe : Hid (T = -1) := Lib.hid (by rw [← hT5.out]; exact cnt_bad (.inr (.inl (by omega))))
                have G6 := G5.trans G6
                rw [decide_eq_false hc]
                clear hT5 hC6
                go_wp2_with fail
                go_ret
                exact ⟨by rw [hTe.out]; rfl, fun h => absurd h (by rw [hTe.out]; omega), G6⟩
            · have t8 : (d'.k != 8) = true := bne_iff_ne.2 h8
              rw [decide_eq_false h8] at hT5
              replace hT5 : Hid (cntL valid (d'.l.drop 0) false 0 dp (left' - 1) = T) := Lib.hid hT5
              go_upto_region 8 with fail
              clear i0 hx h8
              go_upto_region 9 with fail
              clear i10
              go_loopg [46] d'.l.length (fun gk s46 wx => ∃ (i : Nat) (left2 : Int), s46 = .int .i64 (i : Int) ∧ i ≤ d'.l.length ∧ d'.l.length - i = gk ∧ SB wx g [.int .i64 left2] ∧ (0 ≤ left2 ∧ left2 ≤ 20000) ∧ Hid (cntL valid (d'.l.drop i) false i dp left2 = T) ∧ w.grownBy wx (some g) ∧
                RD wx g d' (.agg #[.int .i64 d'.k, .int .i64 d'.n, .bool d'.re.s, .slice A1' d'.re.a.length c1', .slice D1' d'.re.b.length d1', .bool d'.im.s, .slice A2' d'.im.a.length c2', .slice D2' d'.im.b.length d2', .string d'.t, .slice R' d'.raw.length rc', .slice L' d'.l.length lc']))
              case atStart => exact ⟨0, left' - 1, rfl, Nat.zero_le _, rfl, C5, by omega, hT5, G5, R5⟩
              case round =>
                obtain ⟨i, left2, rfl, hil, hgk, C6, hl2, hT6, G6, R6⟩ := hrel
                clear C5 hT5 G5 R5 S5 B5 t1 t2 t3 hlt
                by_cases hi : i < d'.l.length
                · obtain ⟨_, _, _, _, _, _, _, _, _, _, _, _, hvv, _, _, hlc, hds⟩ := R6.view
                  obtain ⟨b, off, hL, hbg, hds⟩ := hds (by omega)
                  have hLL : L' = some ⟨b, off, none⟩ := by
                    have := congrArg Array.toList (Value.agg.inj hvv)
                    simp only [List.cons.injEq, Value.slice.injEq] at this
                    rw [this.2.2.2.2.2.2.2.2.2.2.1.1]
                    exact hL
                  subst hLL
                  clear hvv hL
                  have hx := List.getElem?_eq_getElem hi
                  have hdr : d'.l.drop i = d'.l[i] :: d'.l.drop (i + 1) := List.drop_eq_getElem_cons hi
                  replace hT6 := hT6.out
                  rw [hdr, cntL_cons] at hT6
                  replace hT6 := Lib.hid hT6
                  have hsz : SizeOf.sizeOf d'.l[i] ≤ m := by have := Dat.lt_of_mem (d := d') (List.getElem_mem hi); omega
                  generalize d'.l[i] = x at *
                  clear hdr
                  obtain ⟨vx, Rx, hcx⟩ := hds.get hx
                  obtain ⟨xs, rfl, hxl, hxo⟩ := Rx.agg
                  match xs, hxl with
                  | [x0, x1, x2, x3, x4, x5, x6, x7, x8, x9, x10], _ =>
                  have hcx : ∀ (j : Nat) (u : Value), [x0, x1, x2, x3, x4, x5, x6, x7, x8, x9, x10][j]? = some u → wr.cell? ⟨b, off + i * 11 + j, none⟩ = some u := fun j u hj => by have := hcx _ rfl j u (by simpa using hj); simpa using this
                  have k0 := hcx 0 _ rfl
                  have k1 := hcx 1 _ rfl
                  have k2 := hcx 2 _ rfl
                  have k3 := hcx 3 _ rfl
                  have k4 := hcx 4 _ rfl
                  have k5 := hcx 5 _ rfl
                  have k6 := hcx 6 _ rfl
                  have k7 := hcx 7 _ rfl
                  have k8 := hcx 8 _ rfl
                  have k9 := hcx 9 _ rfl
                  have k10 := hcx 10 _ rfl
                  simp only [Nat.add_zero] at k0
                  clear hcx hds hx
                  generalize hll : d'.l.length = ll at *
                  have SZ := SB.new wr [.int .i64 0, .int .i64 0, .bool false, .slice none 0 0, .slice none 0 0, .bool false, .slice none 0 0, .slice none 0 0, .string { data := #[] }, .slice none 0 0, .slice none 0 0] 31
                  have gw := C6.2
                  have BZ := bal wr (.cells #[.int .i64 0, .int .i64 0, .bool false, .slice none 0 0, .slice none 0 0, .bool false, .slice none 0 0, .slice none 0 0, .string { data := #[] }, .slice none 0 0, .slice none 0 0] 31)
                  have S9 := SZ.cells [x0, x1, x2, x3, x4, x5, x6, x7, x8, x9, x10] rfl
                  have C9 := (C6.nx BZ).cells_far (g := wr.heap.size) (by omega) [x0, x1, x2, x3, x4, x5, x6, x7, x8, x9, x10]
                  have G9 := grown_cells (grown_bel G6 BZ) (b := wr.heap.size) G6.size [x0, x1, x2, x3, x4, x5, x6, x7, x8, x9, x10]
                  have B9 := below_sc (BZ.mono (Nat.le_of_lt gw)) (b := wr.heap.size) (Nat.le_of_lt gw) [x0, x1, x2, x3, x4, x5, x6, x7, x8, x9, x10]
                  have R9 := RD.step B9 (Nat.le_refl _) R6
                  have Rx := RD.step B9 (Nat.le_refl _) Rx
                  obtain ⟨w9, hw9⟩ : ∃ w9, w9 = (wr.alloc (.cells #[.int .i64 0, .int .i64 0, .bool false, .slice none 0 0, .slice none 0 0, .bool false, .slice none 0 0, .slice none 0 0, .string { data := #[] }, .slice none 0 0, .slice none 0 0] 31)).setCells wr.heap.size 0 [x0, x1, x2, x3, x4, x5, x6, x7, x8, x9, x10] := ⟨_, rfl⟩
                  rw [← hw9] at S9 C9 G9 R9 Rx
                  replace hw9 := Lib.hid hw9
                  clear R6 C6 G6 B9 BZ
                  go_upto_region 11 with (refine wp_stD rfl rfl (.tmp 8) (.tmp 49) rfl wr.heap.size rfl [x0, x1, x2, x3, x4, x5, x6, x7, x8, x9, x10] rfl rfl _ SZ rfl hxo ?_; rw [← hw9.out])
                  clear k0 k1 k2 k3 k4 k5 k6 k7 k8 k9 k10 SZ hw9
                  generalize wr.heap.size = g9 at *
                  have k0 := S9.cell 0
                  have k1 := S9.cell 1
                  have k2 := S9.cell 2
                  have k3 := S9.cell 3
                  have k4 := S9.cell 4
                  have k5 := S9.cell 5
                  have k6 := S9.cell 6
                  have k7 := S9.cell 7
                  have k8 := S9.cell 8
                  have k9 := S9.cell 9
                  have k10 := S9.cell 10
                  have hgg := C9.2
                  go_wp2_with fail
                  refine (ih x hsz _ _ (dp + 1) left2 g w9 (by omega) Rx C9 (by omega) hl2 (hV.st (grown_below G9 (Nat.le_refl _) (Nat.le_of_lt hgw)))).mono ?_
                  rintro e w10 ⟨rfl, hC10, G10⟩
                  clear k0 k1 k2 k3 k4 k5 k6 k7 k8 k9 k10 S9
                  have G11 := G9.trans G10
                  by_cases hc : 0 ≤ x.cnt valid (dp + 1) left2
                  · have hc20 := cnt_le2 _ _ _ hc
                    have C10 := hC10 hc
                    rw [decide_eq_true hc]
                    have R10 := RD.step (grown_below G10 (Nat.le_refl _) (Nat.le_of_lt hgg)) (Nat.le_refl _) R9
                    generalize x.cnt valid (dp + 1) left2 = c1 at *
                    have hwi : IntKind.i64.wrap ((i : Int) + 1) = (i : Int) + 1 := IntWalk.i64_in _ (by omega)
                    clear hC10 R9 C9 G9 G10
                    go_wp2_with fail
                    go_roundg (ll - (i + 1))
                    case measure => omega
                    case rel => exact ⟨i + 1, c1, by go_num, by omega, rfl, C10, ⟨hc, by omega⟩, hT6, G11, R10⟩
                  · have hTe : Hid (T = -1) := Lib.hid (by
                      rw [← hT6.out, show x.cnt valid (dp + 1) left2 = -1 by rcases Dat.cnt_le valid x (dp + 1) left2 with h | h <;> omega]
                      exact cntL_neg _ _ _ _ _)
                    rw [decide_eq_false hc]
                    clear hT6 hC10
                    go_wp2_with fail
                    go_ret
                    exact ⟨by rw [hTe.out]; rfl, fun h => absurd h (by rw [hTe.out]; omega), G11⟩
                · obtain rfl : i = d'.l.length := by omega
                  have hT7 : Hid (left2 = T) := Lib.hid (by rw [← hT6.out, List.drop_length, cntL])
                  clear hT6 R6
                  generalize d'.l.length = ll at *
                  go_wp2_with fail
                  go_ret
                  exact ⟨by rw [← hT7.out, decide_eq_true hl2.1]; rfl, fun _ => by rw [← hT7.out]; exact C6, G6⟩

set_option maxRecDepth 100000 in
set_option maxHeartbeats 4000000 in
theorem dsound_any (valid : ByteArray → Bool) (d : Dat) (v : Value) (w : World) (hR : RD w w.heap.size d v) (hV : VS valid w.heap.size w) :
    Calls Tryd.prog 28 #[v] w fun e w' => e = .returned (.bool (d.sound valid)) ∧ Below w.heap.size w w' := by
  have hR0 := hR
  obtain ⟨A1, c1, D1, d1, A2, c2, D2, d2, R, rc, L, lc, rfl, -⟩ := hR.view
  have S1 := SB.new w [.int .i64 d.k, .int .i64 d.n, .bool d.re.s, .slice A1 d.re.a.length c1, .slice D1 d.re.b.length d1, .bool d.im.s, .slice A2 d.im.a.length c2, .slice D2 d.im.b.length d2, .string d.t, .slice R d.raw.length rc, .slice L d.l.length lc] 31
  have B1 := bal w (.cells #[.int .i64 d.k, .int .i64 d.n, .bool d.re.s, .slice A1 d.re.a.length c1, .slice D1 d.re.b.length d1, .bool d.im.s, .slice A2 d.im.a.length c2, .slice D2 d.im.b.length d2, .string d.t, .slice R d.raw.length rc, .slice L d.l.length lc] 31)
  have R1 := hR0.st B1
  go_enter Tryd.func28, Tryd.ntmps28
  go_upto_region 1 with fail
  obtain ⟨W1, hW1⟩ : ∃ W1, W1 = w.alloc (.cells #[.int .i64 d.k, .int .i64 d.n, .bool d.re.s, .slice A1 d.re.a.length c1, .slice D1 d.re.b.length d1, .bool d.im.s, .slice A2 d.im.a.length c2, .slice D2 d.im.b.length d2, .string d.t, .slice R d.raw.length rc, .slice L d.l.length lc] 31) := ⟨_, rfl⟩
  rw [← hW1] at S1 B1 R1 ⊢
  clear hW1 hR hR0
  have C2 := SB.new W1 [.int .i64 20000] 3
  have B2 := bal W1 (.cells #[.int .i64 20000] 3)
  have S2 := S1.nx B2
  have R2 := RD.step B2 (Nat.le_refl _) R1
  have V2 := ((hV.st (B1.trans (B2.mono B1.size))).more B1.size)
  have BB := bt B1 B2
  go_upto_region 2 with fail
  obtain ⟨W2, hW2⟩ : ∃ W2, W2 = W1.alloc (.cells #[.int .i64 20000] 3) := ⟨_, rfl⟩
  rw [← hW2] at C2 S2 R2 V2 BB ⊢
  clear hW2 B2 S1 R1
  have i0 := S2.cell 0
  have i1 := S2.cell 1
  have i2 := S2.cell 2
  have i3 := S2.cell 3
  have i4 := S2.cell 4
  have i5 := S2.cell 5
  have i6 := S2.cell 6
  have i7 := S2.cell 7
  have i8 := S2.cell 8
  have i9 := S2.cell 9
  have i10 := S2.cell 10
  go_wp2_with fail
  refine (dsound_go valid (SizeOf.sizeOf d) d (Nat.le_refl _) _ 1 1 20000 W1.heap.size W2 rfl R2 C2 (by omega) (by omega) V2).mono ?_
  rintro e w5 ⟨rfl, -, G5⟩
  have B5 := BB.trans (grown_below G5 B1.size BB.size)
  clear i0 i1 i2 i3 i4 i5 i6 i7 i8 i9 i10
  go_wp2_with fail
  go_ret
  exact ⟨rfl, B5⟩
end Go.Proofs.YtilhnjecnhpmlaaDoor
