/- Merged texts: MemK, UtfA, UtfB. -/
import Derived.Test.YtilhnjecnhpmlaaDoorGB
import Derived.Deep.MidRow
import Derived.Test.YtilhnjecnhpmlaaDoorGG
import Derived.Lib.ValidLaws
import Derived.Laws.BitsLemmas
import Derived.Test.YtilhnjecnhpmlaaDoorGE
import Derived.Deep.Upon
import Derived.Deep.DeepCutAuto
import Derived.Shelf.Unicode.ValidAny
namespace Go.Proofs.YtilhnjecnhpmlaaDoor
open Go.RowKit

/-- a slice of the call's own holds the list l; f: an element's k cells -/
def OK {α : Type} (e : TypeId) (k : Nat) (f : α → List Value) (w : World) (base : Nat) (A : Option Addr) (c : Nat) (l : List α) : Prop :=
  w.ownsRow base e k (.slice A l.length c) l.length (l.flatMap f)
section
variable {α : Type} {e : TypeId} {k : Nat} {f : α → List Value} {w w' : World} {base B : Nat} {A : Option Addr} {c : Nat} {l : List α}
theorem OK.nil (e : TypeId) (k : Nat) (f : α → List Value) (w : World) (base : Nat) : OK e k f w base none 0 ([] : List α) := World.ownsRow_nil w base e k
theorem OK.empty (e : TypeId) (k : Nat) (f : α → List Value) (w : World) : OK e k f (w.alloc (.cells #[] e)) w.heap.size (some ⟨w.heap.size, 0, none⟩) 0 ([] : List α) := by
  have h := World.ownsRow_lit (base := w.heap.size) (e := e) (size := k) w #[] 0 (Nat.le_refl _) (by unfold maxLen; omega) (by simp)
  exact h
theorem OK.form (h : OK e k f w base A c l) : (A = none ∧ c = 0 ∧ l = []) ∨ ∃ g, A = some ⟨g, 0, none⟩ ∧ base ≤ g ∧ g < w.heap.size ∧ l.length ≤ c := by
  rcases h.2 with ⟨e, h0⟩ | ⟨g, cap, cur, e, hb, hh, hn, _⟩
  · simp only [Value.slice.injEq] at e
    exact .inl ⟨e.1, e.2.2, List.eq_nil_of_length_eq_zero h0⟩
  · simp only [Value.slice.injEq] at e
    obtain ⟨e1, e2, e3⟩ := e
    subst e3
    exact .inr ⟨g, e1, hb, (Array.getElem?_eq_some_iff.1 hh).1, hn⟩
theorem OK.lc (h : OK e k f w base A c l) : l.length ≤ c := by
  rcases h.form with ⟨_, _, rfl⟩ | ⟨g, _, _, _, h⟩
  · simp
  · exact h
theorem OK.lt {g : Nat} (h : OK e k f w base (some ⟨g, 0, none⟩) c l) : base ≤ g ∧ g < w.heap.size := by
  rcases h.form with ⟨e, _⟩ | ⟨g', e, h1, h2, _⟩
  · cases e
  · simp only [Option.some.injEq, Addr.mk.injEq, and_true] at e
    subst e
    exact ⟨h1, h2⟩
theorem OK.base_le (h : OK e k f w base A c l) (hb : B ≤ base) : OK e k f w B A c l := by
  refine ⟨h.1, ?_⟩
  rcases h.2 with h2 | ⟨g, cap, cur, a, b, r⟩
  · exact .inl h2
  · exact .inr ⟨g, cap, cur, a, by omega, r⟩
theorem OK.kept (h : OK e k f w base A c l) (hk : ∀ g, A = some ⟨g, 0, none⟩ → w'.heap[g]? = w.heap[g]?) : OK e k f w' base A c l := by
  refine ⟨h.1, ?_⟩
  rcases h.2 with h2 | ⟨g, cap, cur, a, b, hh, r⟩
  · exact .inl h2
  · have ha : A = some ⟨g, 0, none⟩ := by simp only [Value.slice.injEq] at a; exact a.1
    exact .inr ⟨g, cap, cur, a, b, by rw [hk g ha]; exact hh, r⟩
theorem OK.below (h : OK e k f w base A c l) (hb : Below B w w') (hB : w.heap.size ≤ B) : OK e k f w' base A c l :=
  h.kept fun g hg => hb.block g (by subst hg; have := h.lt; omega)
theorem OK.alloc (h : OK e k f w base A c l) (o : Obj) : OK e k f (w.alloc o) base A c l := World.ownsRow.alloc h o
theorem OK.drewN (h : OK e k f w base A c l) (q : Nat) : OK e k f (w.drewN q) base A c l := h
theorem len_flat (hf : ∀ x : α, (f x).length = k) : ∀ l : List α, (l.flatMap f).length = l.length * k
  | [] => by simp
  | x :: xs => by rw [List.flatMap_cons, List.length_append, hf, len_flat hf xs, List.length_cons, Nat.add_mul]; omega
theorem flat_get (hf : ∀ x : α, (f x).length = k) : ∀ (l : List α) (i : Nat) (x : α), l[i]? = some x → ∀ j, j < k → (l.flatMap f)[i * k + j]? = (f x)[j]?
  | [], i, x, h, j, hj => by cases h
  | y :: ys, 0, x, h, j, hj => by
    obtain rfl : y = x := by simpa using h
    rw [List.flatMap_cons, Nat.zero_mul, Nat.zero_add, List.getElem?_append_left (by rw [hf]; exact hj)]
  | y :: ys, i + 1, x, h, j, hj => by
    rw [List.flatMap_cons, List.getElem?_append_right (by rw [hf]; exact Nat.le_trans (by rw [Nat.add_mul]; omega) (Nat.le_add_right _ _)), hf]
    rw [show (i + 1) * k + j - k = i * k + j by rw [Nat.add_mul]; omega]
    exact flat_get hf ys i x (by simpa using h) j hj
/-- the i-th element's cells -/
theorem OK.cells {g : Nat} (hf : ∀ x : α, (f x).length = k) (h : OK e k f w base (some ⟨g, 0, none⟩) c l) {i : Nat} {x : α} (hi : l[i]? = some x) : ∀ j u, (f x)[j]? = some u → w.cell? ⟨g, i * k + j, none⟩ = some u := by
  intro j u hj
  have hjk : j < k := by rw [← hf x]; exact (List.getElem?_eq_some_iff.1 hj).1
  have hil : i < l.length := (List.getElem?_eq_some_iff.1 hi).1
  have hlt : i * k + j < l.length * k := by
    have : (i + 1) * k ≤ l.length * k := Nat.mul_le_mul_right k hil
    rw [Nat.add_mul] at this; omega
  rw [World.ownsRow.cellAt h _ hlt, flat_get hf l i x hi j hjk, hj]
end
/-- append(v, x): one element behind a row of the call's own (nil too) -/
theorem wp_app1 {P : Program} (w : World) {ops : Array Oper} {rest : List Oper} {o : Oper} {a : Act} {Q : Exit → Act → World → Prop}
    (T e : TypeId) {α : Type} (k : Nat) (f : α → List Value) (z : Value) (by_ : Nat) (hu : P.underlying T = some (.slice e)) (hi : (P.info? e).map (fun i => (i.zero, i.size, i.bytes)) = some (some z, k, by_)) (hz : z.cells.size = k) (hk0 : 0 < k)
    (hf : ∀ x : α, (f x).length = k) (h1 : ∀ (x : α), ∀ u ∈ f x, u.oneCell' = true)
    (hg : o.guard = none) (s x : Operand) (hop : o.op = Op.call { callee := Callee.builtin Builtin.append, args := #[s, x], argTypes := #[T, T] })
    (base : Nat) (A : Option Addr) (c n : Nat) (l : List α) (hs : a.eval s = .slice A n c) (hn : n = l.length) (hown : OK e k f w base A c l)
    (b d : Nat) (r : α) (hx : a.eval x = .slice (some ⟨b, 0, none⟩) 1 d) (hr : ∀ j u, (f r)[j]? = some u → w.cell? ⟨b, j, none⟩ = some u)
    (hlen : l.length + 1 ≤ 35184372088832) (hby : (l.length + 1) * by_ ≤ 140737488355328) (hbase : base ≤ w.heap.size)
    (hK : ∀ A' c' w', OK e k f w' base A' c' (l ++ [r]) → w.grownBy w' (Value.slice A n c).ownBlock → wpList P ops Q rest (a.put o.dst (.slice A' (l.length + 1) c')) w') :
    wpList P ops Q (o :: rest) a w := by
  obtain ⟨i, hi, h0, hi1, h2⟩ := info_parts hi
  subst hn
  refine wpList_plain hg fun K hK' => ?_
  obtain ⟨v', w', hrun, q1, q2, _, q4⟩ := run_append_own_at (P := P) w base T o.type e i z k by_ hu hi h0 hi1 h2 hz hk0 (.slice A l.length c) l.length (l.flatMap f) hown ⟨b, 0, none⟩ 1 d (f r) (by rw [hf, Nat.one_mul])
    (fun j u hj => by rw [Addr.add_lit, Nat.zero_add]; exact hr j u hj) (h1 r) (by unfold maxLen; omega) hby hbase
  have e1 : l.flatMap f ++ f r = (l ++ [r]).flatMap f := by simp
  have e2 : (l ++ [r]).length = l.length + 1 := by simp
  rw [e1] at q1
  unfold Oper.wp execOp
  simp only [hop, resolve, invoke, builtin, Sem.run_bind, Sem.run_pure, Result.andThen_ok, List.map_toArray, List.map_cons, List.map_nil, hs, hx, hrun]
  rcases q1.2 with ⟨rfl, hz⟩ | ⟨g, cap, cur, rfl, a1⟩
  · omega
  · exact hK' _ _ (hK (some ⟨g, 0, none⟩) cap w' (by unfold OK; rw [e2]; exact q1) q2)
end Go.Proofs.YtilhnjecnhpmlaaDoor
namespace Go.Proofs.YtilhnjecnhpmlaaDoor
open Go.RowKit

/-- how many bytes, and what the first one gives -/
def leadU (x : Nat) : Nat × Nat := if x < 128 then (1, x) else if x / 32 = 6 then (2, x % 32) else if x / 16 = 14 then (3, x % 16) else if x / 8 = 30 then (4, x % 8) else (0, 0)
def stepU (g : Nat → Nat) (r0 : Nat) : Nat → Nat
  | 0 => r0
  | j + 1 => stepU g r0 j * 64 + g (j + 1) % 64
theorem stepU_le (g : Nat → Nat) (r0 : Nat) : ∀ j, stepU g r0 j + 1 ≤ (r0 + 1) * 64 ^ j
  | 0 => by simp [stepU]
  | j + 1 => by
    have := stepU_le g r0 j
    have := Nat.mod_lt (g (j + 1)) (show 0 < 64 by decide)
    rw [stepU, Nat.pow_succ, ← Nat.mul_assoc]
    omega
theorem leadU_le (x : Nat) (_hx : x < 256) : (leadU x).1 ≤ 4 ∧ (leadU x).2 < 128 ∧ (2 ≤ (leadU x).1 → (leadU x).2 ≤ 31) ∧ (3 ≤ (leadU x).1 → (leadU x).2 ≤ 15) ∧ (4 ≤ (leadU x).1 → (leadU x).2 ≤ 7) := by
  unfold leadU
  split
  · exact ⟨by simp, by simpa, by simp, by simp, by simp⟩
  · split
    · refine ⟨?_, ?_, ?_, ?_, ?_⟩ <;> simp <;> omega
    · split
      · refine ⟨?_, ?_, ?_, ?_, ?_⟩ <;> simp <;> omega
      · split
        · refine ⟨?_, ?_, ?_, ?_, ?_⟩ <;> simp <;> omega
        · simp
theorem step_small (x : Nat) (hx : x < 256) (g : Nat → Nat) (j : Nat) (hj : j + 1 ≤ (leadU x).1) (hn : 2 ≤ (leadU x).1) : stepU g (leadU x).2 j < 33554432 := by
  have h := stepU_le g (leadU x).2 j
  obtain ⟨h4, h0, h1, h2, h3⟩ := leadU_le x hx
  have hj4 : j ≤ 3 := by omega
  match j, hj4 with
  | 0, _ => simp at h; omega
  | 1, _ => simp at h; omega
  | 2, _ => simp at h; omega
  | 3, _ => simp at h; omega
def leastU (n : Nat) : Nat := if n = 2 then 128 else if n = 3 then 2048 else 65536
def lastU (n r : Nat) : Bool := decide (leastU n ≤ r) && (decide (r ≤ 1114111) && (decide (r < 55296) || decide (57343 < r)))
/-- is a character read at the head? m: bytes that are left -/
def okU (g : Nat → Nat) (m : Nat) : Bool :=
  decide (0 < (leadU (g 0)).1 ∧ (leadU (g 0)).1 ≤ m ∧ ∀ i, i < (leadU (g 0)).1 → 1 ≤ i → g i / 64 = 2) && (decide ((leadU (g 0)).1 ≤ 1) || lastU (leadU (g 0)).1 (stepU g (leadU (g 0)).2 ((leadU (g 0)).1 - 1)))
theorem all2 {g : Nat → Nat} : (∀ i, i < 2 → 1 ≤ i → g i / 64 = 2) ↔ g 1 / 64 = 2 := ⟨fun h => h 1 (by omega) (by omega), fun h i h2 h1 => by rw [show i = 1 by omega]; exact h⟩
theorem all3 {g : Nat → Nat} : (∀ i, i < 3 → 1 ≤ i → g i / 64 = 2) ↔ g 1 / 64 = 2 ∧ g 2 / 64 = 2 := ⟨fun h => ⟨h 1 (by omega) (by omega), h 2 (by omega) (by omega)⟩, fun h i h2 h1 => by
  rcases (show i = 1 ∨ i = 2 by omega) with rfl | rfl
  · exact h.1
  · exact h.2⟩
theorem all4 {g : Nat → Nat} : (∀ i, i < 4 → 1 ≤ i → g i / 64 = 2) ↔ g 1 / 64 = 2 ∧ g 2 / 64 = 2 ∧ g 3 / 64 = 2 := ⟨fun h => ⟨h 1 (by omega) (by omega), h 2 (by omega) (by omega), h 3 (by omega) (by omega)⟩, fun h i h2 h1 => by
  rcases (show i = 1 ∨ i = 2 ∨ i = 3 by omega) with rfl | rfl | rfl
  · exact h.1
  · exact h.2.1
  · exact h.2.2⟩
theorem all1 {g : Nat → Nat} : (∀ i, i < 1 → 1 ≤ i → g i / 64 = 2) ↔ True := ⟨fun _ => trivial, fun _ i h2 h1 => by omega⟩
theorem okU_dec (g : Nat → Nat) (m : Nat) (hm : 1 ≤ m) : (okU g m = false ∧ Lib.decodeN m (g 0) (g 1) (g 2) (g 3) = (65533, 1)) ∨ (okU g m = true ∧ (Lib.decodeN m (g 0) (g 1) (g 2) (g 3)).2 = (leadU (g 0)).1 ∧ ¬ ((Lib.decodeN m (g 0) (g 1) (g 2) (g 3)).1 = 65533 ∧ (Lib.decodeN m (g 0) (g 1) (g 2) (g 3)).2 = 1)) := by
  unfold okU Lib.decodeN
  generalize g 0 = b0 at *
  by_cases h1 : b0 < 128
  · right
    simp only [leadU, h1, if_true]
    simp
    omega
  · by_cases h2 : b0 / 32 = 6
    · have e : leadU b0 = (2, b0 % 32) := by unfold leadU; rw [if_neg h1, if_pos h2]
      rw [e]
      have n3 : ¬ b0 / 16 = 14 := by omega
      have n4 : ¬ b0 / 8 = 30 := by omega
      simp only [h1, h2, n3, n4, if_false, true_and, false_and, all2, stepU, lastU, leastU, if_true]
      by_cases c : 1 < m ∧ g 1 / 64 = 2
      · rw [if_pos c]
        have c' : 2 ≤ m := c.1
        simp only [c', c.2]
        by_cases q : b0 % 32 * 64 + g 1 % 64 ≥ 128
        · right
          rw [if_pos q]
          simp
          omega
        · left
          rw [if_neg q]
          simp
          omega
      · left
        rw [if_neg c]
        have : ¬ (0 < 2 ∧ 2 ≤ m ∧ g 1 / 64 = 2) := fun h => c ⟨h.2.1, h.2.2⟩
        simp only [decide_eq_false this, Bool.false_and, and_self]
    · by_cases h3 : b0 / 16 = 14
      · have e : leadU b0 = (3, b0 % 16) := by unfold leadU; rw [if_neg h1, if_neg h2, if_pos h3]
        rw [e]
        have n4 : ¬ b0 / 8 = 30 := by omega
        simp only [h1, h2, h3, n4, if_false, true_and, false_and, all3, stepU, lastU, leastU, if_true]
        by_cases c : (1 < m ∧ g 1 / 64 = 2) ∧ 2 < m ∧ g 2 / 64 = 2
        · rw [if_pos c]
          have c' : 3 ≤ m := c.2.1
          simp only [c', c.2.2, c.1.2]
          by_cases q : b0 % 16 * 4096 + g 1 % 64 * 64 + g 2 % 64 ≥ 2048 ∧ (b0 % 16 * 4096 + g 1 % 64 * 64 + g 2 % 64 < 55296 ∨ (57344 ≤ b0 % 16 * 4096 + g 1 % 64 * 64 + g 2 % 64 ∧ b0 % 16 * 4096 + g 1 % 64 * 64 + g 2 % 64 ≤ 1114111))
          · right
            rw [if_pos q]
            simp
            omega
          · left
            rw [if_neg q]
            simp
            omega
        · left
          rw [if_neg c]
          have : ¬ (0 < 3 ∧ 3 ≤ m ∧ g 1 / 64 = 2 ∧ g 2 / 64 = 2) := fun h => c ⟨⟨by omega, h.2.2.1⟩, h.2.1, h.2.2.2⟩
          simp only [decide_eq_false this, Bool.false_and, and_self]
      · by_cases h4 : b0 / 8 = 30
        · have e : leadU b0 = (4, b0 % 8) := by unfold leadU; rw [if_neg h1, if_neg h2, if_neg h3, if_pos h4]
          rw [e]
          simp only [h1, h2, h3, h4, if_false, true_and, false_and, all4, stepU, lastU, leastU]
          by_cases c : (1 < m ∧ g 1 / 64 = 2) ∧ (2 < m ∧ g 2 / 64 = 2) ∧ 3 < m ∧ g 3 / 64 = 2
          · rw [if_pos c]
            have c' : 4 ≤ m := c.2.2.1
            simp only [c', c.2.2.2, c.2.1.2, c.1.2]
            by_cases q : b0 % 8 * 262144 + g 1 % 64 * 4096 + g 2 % 64 * 64 + g 3 % 64 ≥ 65536 ∧ (b0 % 8 * 262144 + g 1 % 64 * 4096 + g 2 % 64 * 64 + g 3 % 64 < 55296 ∨ (57344 ≤ b0 % 8 * 262144 + g 1 % 64 * 4096 + g 2 % 64 * 64 + g 3 % 64 ∧ b0 % 8 * 262144 + g 1 % 64 * 4096 + g 2 % 64 * 64 + g 3 % 64 ≤ 1114111))
            · right
              rw [if_pos q]
              simp
              omega
            · left
              rw [if_neg q]
              simp
              omega
          · left
            rw [if_neg c]
            have : ¬ (0 < 4 ∧ 4 ≤ m ∧ g 1 / 64 = 2 ∧ g 2 / 64 = 2 ∧ g 3 / 64 = 2) := fun h => c ⟨⟨by omega, h.2.2.1⟩, ⟨by omega, h.2.2.2.1⟩, by omega, h.2.2.2.2⟩
            simp only [decide_eq_false this, Bool.false_and, and_self]
        · left
          have e : leadU b0 = (0, 0) := by unfold leadU; rw [if_neg h1, if_neg h2, if_neg h3, if_neg h4]
          rw [e]
          simp [h1, h2, h3, h4]
/-- the byte i behind place p -/
def gU (l : List UInt8) (p i : Nat) : Nat := (l.getD (p + i) 0).toNat
theorem valid_next (l : List UInt8) (p : Nat) (hp : p < l.length) : Lib.validD (l.drop p) = if okU (gU l p) (l.length - p) = true then Lib.validD (l.drop (p + (leadU (gU l p 0)).1)) else false := by
  have hne : l.drop p ≠ [] := by
    intro h
    have := congrArg List.length h
    simp at this
    omega
  rw [Lib.validD_step _ hne]
  have hd : Lib.decodeL (l.drop p) = Lib.decodeN (l.length - p) (gU l p 0) (gU l p 1) (gU l p 2) (gU l p 3) := by
    rw [Lib.decodeL_N]
    simp [gU, List.getD_eq_getElem?_getD, List.getElem?_drop]
  rcases okU_dec (gU l p) (l.length - p) (by omega) with ⟨h1, h2⟩ | ⟨h1, h2, h3⟩
  · rw [h1, hd, h2]
    simp
  · rw [← hd] at h2 h3
    rw [h1, if_neg h3, if_pos rfl, h2, List.drop_drop]
end Go.Proofs.YtilhnjecnhpmlaaDoor
namespace Go.Proofs.YtilhnjecnhpmlaaDoor
open Go.RowKit

/-- a unit's cells -/
def fU (x : Int × Bool × Int) : List Value := [.int .i32 x.1, .bool x.2.1, .int .i64 x.2.2]
theorem infoU : (Tryd.prog.info? 106).map (fun i => (i.zero, i.size, i.bytes)) = some (some (.agg #[.int .i32 0, .bool false, .int .i64 0]), 3, 16) := by kernel_rfl

theorem u8_and7 (x : Nat) (h : x < 256) : bits .and .u8 (x : Int) 7 = ((x : Int) % 8) := by
  have := and7 ⟨x, h⟩
  simp only at this
  rw [this]; omega
theorem zU : (Value.agg #[.int .i32 0, .bool false, .int .i64 0]).cells.size = 3 := rfl
/-- append of one unit -/
theorem wp_appU (w : World) {ops : Array Oper} {rest : List Oper} {o : Oper} {a : Act} {Q : Exit → Act → World → Prop}
    (hg : o.guard = none) (s x : Operand) (hop : o.op = Op.call { callee := Callee.builtin Builtin.append, args := #[s, x], argTypes := #[103, 103] })
    (base : Nat) (A : Option Addr) (c n : Nat) (l : List (Int × Bool × Int)) (hs : a.eval s = .slice A n c) (hn : n = l.length) (hown : OK 106 3 fU w base A c l)
    (b d : Nat) (r : Int × Bool × Int) (hx : a.eval x = .slice (some ⟨b, 0, none⟩) 1 d) (hr : ∀ j u, (fU r)[j]? = some u → w.cell? ⟨b, j, none⟩ = some u)
    (hlen : l.length ≤ 2000000) (hbase : base ≤ w.heap.size)
    (hK : ∀ A' c' w', OK 106 3 fU w' base A' c' (l ++ [r]) → Below base w w' → wpList Tryd.prog ops Q rest (a.put o.dst (.slice A' (l.length + 1) c')) w') :
    wpList Tryd.prog ops Q (o :: rest) a w :=
  wp_app1 w 103 106 3 fU (.agg #[.int .i32 0, .bool false, .int .i64 0]) 16 Tryd.underlying103 infoU zU (by decide) (fun _ => rfl)
    (fun x u hu => by simp only [fU, List.mem_cons, List.not_mem_nil, or_false] at hu; rcases hu with rfl | rfl | rfl <;> rfl) hg s x hop base A c n l hs hn hown b d r hx hr (by omega) (by omega) hbase
    fun A' c' w' h1 h2 => hK A' c' w' h1 ((Below.refl _ _).grown h2 hbase (by
      intro k hk
      rcases hown.form with ⟨rfl, _⟩ | ⟨g, rfl, hb, _⟩
      · simp [Value.ownBlock] at hk
      · simp [Value.ownBlock] at hk; omega))

set_option maxRecDepth 100000 in
set_option maxHeartbeats 8000000 in
theorem utf8_any (A : Option Addr) (c : Nat) (l : List UInt8) (w : World) (hR : RB w w.heap.size A c l) (hl : l.length ≤ 1048576) :
    Calls Tryd.prog 98 #[.slice A l.length c] w fun e w' => ∃ A' c' us, e = .returned (.slice A' us.length c') ∧ OK 106 3 fU w' w.heap.size A' c' us ∧ us.any (·.2.1) = !Lib.validD l ∧ us.length ≤ l.length ∧ Below w.heap.size w w' := by
  have O0 := OK.empty 106 3 fU w
  have B0 := bal w (.cells #[] 106)
  go_enter Tryd.func98, Tryd.ntmps98
  go_upto_region 3 with fail
  go_loopg [3, 4] (l.length) (fun gk s3 s4 wx => ∃ (A' : Option Addr) (c' : Nat) (us : List (Int × Bool × Int)) (p : Nat), s3 = .slice A' us.length c' ∧ s4 = .int .i64 (p : Int) ∧ p ≤ l.length ∧ l.length - p = gk ∧ OK 106 3 fU wx w.heap.size A' c' us ∧ us.length ≤ p ∧ Hid ((us.any (·.2.1) || !Lib.validD (l.drop p)) = !Lib.validD l) ∧ Below w.heap.size w wx)
  case atStart => exact ⟨_, _, [], 0, rfl, rfl, Nat.zero_le _, rfl, O0, Nat.zero_le _, Lib.hid (by simp), B0⟩
  case round =>
    obtain ⟨A', c', us, p, rfl, rfl, hpl, hgk, O1, hup, hT, B1⟩ := hrel
    clear O0 B0
    by_cases hp : p < l.length
    rotate_left
    · obtain rfl : p = l.length := by omega
      have hf : us.any (·.2.1) = !Lib.validD l := by
        rw [← hT.out, List.drop_length, Lib.validD_nil]; simp
      clear hT
      replace hup : us.length ≤ l.length := hup
      replace hf := Lib.hid hf
      go_wp2_with fail
      go_ret
      exact ⟨A', c', us, rfl, O1, hf.out, hup, B1⟩
    have hn := valid_next l p hp
    have hR1 := RL.step hR B1 (Nat.le_refl _)
    obtain ⟨b, off, hA, hb, hc⟩ := RL.at_ hR1 (by omega)
    subst hA
    have hx : ∀ i, p + i < l.length → wr.cell? ⟨b, off + (p + i), none⟩ = some (.int .u8 (gU l p i : Int)) := fun i hi => by
      have := hc (p + i) _ (b_get? hi)
      rw [this]
      rfl
    clear hc hR1
    have k0 := hx 0 (by omega)
    simp only [Nat.add_zero] at k0
    have hg8 : ∀ i, gU l p i < 256 := fun i => by unfold gU; exact (l.getD (p + i) 0).toNat_lt
    generalize gU l p = g at *
    have h0 := hg8 0
    have h0z : (g 0 : Int) < 256 := by omega
    have h0p : (0 : Int) ≤ (g 0 : Int) := by omega
    have a31 := u8_and31 _ h0p h0z
    have a15 := u8_and15 _ h0p h0z
    have a7 := u8_and7 (g 0) h0

    by_cases c1 : g 0 < 128
    · have t1 : (g 0 : Int) < 128 := by omega
      have hle : leadU (g 0) = (1, g 0) := by unfold leadU; rw [if_pos c1]
      have hlead : (leadU (g 0)).1 = 1 := by rw [hle]
      have hgood : okU g (l.length - p) = true := by
        unfold okU; rw [hle]; simp; omega
      have t2 : (p : Int) + 1 ≤ (l.length : Int) := by omega
      have hwj : IntKind.i64.wrap ((p : Int) + 1) = (p : Int) + 1 := IntWalk.i64_in _ (by omega)
      clear hx hg8 a31 a15 a7 hle
      go_upto_region 16 with fail
      go_loopg [6, 8, 9, 10] 0 (fun gk s6 s8 s9 s10 wx => s6 = .int .i32 (g 0 : Int) ∧ s8 = .bool true ∧ s9 = .int .i64 1 ∧ wx = wr)
      case atStart => exact ⟨rfl, rfl, rfl, rfl⟩
      case round =>
        obtain ⟨rfl, rfl, rfl, rfl⟩ := hrel
        have hTn : Hid (((us ++ [(((g 0) : Int), false, (p : Int))]).any (·.2.1) || !Lib.validD (l.drop (p + 1))) = !Lib.validD l) := Lib.hid (by
          have h2 := hT.out
          rw [hn, if_pos hgood, hlead] at h2
          rw [← h2]; simp)
        have S1 := SB.new wr [.int .i32 (g 0), .bool false, .int .i64 p] 106
        have B2 := bal wr (.cells #[.int .i32 (g 0), .bool false, .int .i64 p] 106)
        have hwi : IntKind.i64.wrap ((p : Int) + 1) = (p : Int) + 1 := IntWalk.i64_in _ (by omega)
        clear hT hn hgood
        go_wp2_with (at_builtin; refine wp_appU _ rfl _ _ rfl w.heap.size _ _ _ us rfl rfl (O1.alloc _) wr.heap.size _ (((g 0) : Int), false, (p : Int)) rfl (fun j u hj => (S1.1 j u hj).1) (by omega) (by have := B1.size; simp; omega) ?_; intro A2 c2 w2 O2 G2)
        have B3 := B1.trans ((B2.mono B1.size).trans G2)
        go_roundg (l.length - (p + 1))
        case measure => omega
        case rel => exact ⟨A2, c2, us ++ [(((g 0) : Int), false, (p : Int))], p + 1, by simp, by go_num, by omega, rfl, O2, by rw [List.length_append]; simp only [List.length_cons, List.length_nil]; omega, hTn, B3⟩
    have t1 : ¬ (g 0 : Int) < 128 := by omega
    by_cases c2 : g 0 / 32 = 6
    · have t2 : ((g 0 : Int) / 32 == 6) = true := by rw [show (g 0 : Int) / 32 = 6 by omega]; rfl
      have hle : leadU (g 0) = (2, g 0 % 32) := by unfold leadU; rw [if_neg c1, if_pos c2]
      have hlead : (leadU (g 0)).1 = 2 := by rw [hle]
      have hsm : ∀ j, j + 1 ≤ 2 → stepU g (g 0 % 32) j < 33554432 := fun j hj => by
        have := step_small (g 0) h0 g j (by rw [hle]; exact hj) (by rw [hle]; show 2 ≤ 2; decide)
        rw [hle] at this; exact this
      have hwj : IntKind.i64.wrap ((p : Int) + 2) = (p : Int) + 2 := IntWalk.i64_in _ (by omega)
      by_cases hfit : p + 2 ≤ l.length
      rotate_left
      · have hbad : okU g (l.length - p) = false := by
          unfold okU; rw [hle]; simp; omega
        have t9 : ¬ (p : Int) + 2 ≤ (l.length : Int) := by omega
        clear hx hg8 hle
        go_upto_region 16 with fail
        go_loopg [6, 8, 9, 10] 0 (fun gk s6 s8 s9 s10 wx => s8 = .bool false ∧ s9 = .int .i64 1 ∧ wx = wr)
        case atStart => exact ⟨rfl, rfl, rfl⟩
        case round =>
          obtain ⟨rfl, rfl, rfl⟩ := hrel
          have hval : (!Lib.validD l) = true := by
            rw [← hT.out, hn, if_neg (by rw [hbad]; simp)]; simp
          have hTn : Hid (((us ++ [((0 : Int), true, (p : Int))]).any (·.2.1) || !Lib.validD (l.drop (p + 1))) = !Lib.validD l) := Lib.hid (by rw [hval]; simp)
          have S1 := SB.new wr [.int .i32 0, .bool true, .int .i64 p] 106
          have B2 := bal wr (.cells #[.int .i32 0, .bool true, .int .i64 p] 106)
          have hwi : IntKind.i64.wrap ((p : Int) + 1) = (p : Int) + 1 := IntWalk.i64_in _ (by omega)
          clear hT hn hval hbad
          go_wp2_with (at_builtin; refine wp_appU _ rfl _ _ rfl w.heap.size _ _ _ us rfl rfl (O1.alloc _) wr.heap.size _ ((0 : Int), true, (p : Int)) rfl (fun j u hj => (S1.1 j u hj).1) (by omega) (by have := B1.size; simp; omega) ?_; intro A2 c2 w2 O2 G2)
          have B3 := B1.trans ((B2.mono B1.size).trans G2)
          go_roundg (l.length - (p + 1))
          case measure => omega
          case rel => exact ⟨A2, c2, us ++ [((0 : Int), true, (p : Int))], p + 1, by simp, by go_num, by omega, rfl, O2, by rw [List.length_append]; simp only [List.length_cons, List.length_nil]; omega, hTn, B3⟩
      have t9 : (p : Int) + 2 ≤ (l.length : Int) := by omega
      go_upto_region 16 with fail
      go_loopg [6, 8, 9, 10] 2 (fun gk s6 s8 s9 s10 wx => ∃ (j : Nat) (ok : Bool), s6 = .int .i32 ((stepU g (g 0 % 32) j : Nat) : Int) ∧ s8 = .bool ok ∧ s9 = .int .i64 ((j : Int) + 1) ∧ j < 2 ∧ 2 - j = gk ∧ Hid ((∀ i, i < j → 1 ≤ i → g i / 64 = 2) ∧ (ok = true ↔ (j = 0 ∨ g j / 64 = 2))) ∧ wx = wr)
      case atStart => exact ⟨0, true, by rw [stepU]; simp, rfl, by simp, by omega, rfl, Lib.hid ⟨fun i h => by omega, by simp⟩, rfl⟩
      case round =>
        obtain ⟨j, ok, rfl, rfl, rfl, hjn, hgk2, hI, rfl⟩ := hrel
        cases ok with
        | false =>
          have hbad : okU g (l.length - p) = false := by
            have h2 : ¬ (j = 0 ∨ g j / 64 = 2) := fun h => by have := hI.out.2.2 h; cases this
            have h3 : ¬ (0 < 2 ∧ 2 ≤ l.length - p ∧ ∀ i, i < 2 → 1 ≤ i → g i / 64 = 2) := fun h => h2 (by
              by_cases hj0 : j = 0
              · exact .inl hj0
              · exact .inr (h.2.2 j hjn (by omega)))
            unfold okU; rw [hle]
            simp only [decide_eq_false h3, Bool.false_and]
          clear hI hx hg8 hle hsm
          have hval : (!Lib.validD l) = true := by
            rw [← hT.out, hn, if_neg (by rw [hbad]; simp)]; simp
          have hTn : Hid (((us ++ [((0 : Int), true, (p : Int))]).any (·.2.1) || !Lib.validD (l.drop (p + 1))) = !Lib.validD l) := Lib.hid (by rw [hval]; simp)
          have S1 := SB.new wr [.int .i32 0, .bool true, .int .i64 p] 106
          have B2 := bal wr (.cells #[.int .i32 0, .bool true, .int .i64 p] 106)
          have hwi : IntKind.i64.wrap ((p : Int) + 1) = (p : Int) + 1 := IntWalk.i64_in _ (by omega)
          clear hT hn hval hbad
          go_wp2_with (at_builtin; refine wp_appU _ rfl _ _ rfl w.heap.size _ _ _ us rfl rfl (O1.alloc _) wr.heap.size _ ((0 : Int), true, (p : Int)) rfl (fun j u hj => (S1.1 j u hj).1) (by omega) (by have := B1.size; simp; omega) ?_; intro A2 c2 w2 O2 G2)
          have B3 := B1.trans ((B2.mono B1.size).trans G2)
          go_roundg (l.length - (p + 1))
          case measure => omega
          case rel => exact ⟨A2, c2, us ++ [((0 : Int), true, (p : Int))], p + 1, by simp, by go_num, by omega, rfl, O2, by rw [List.length_append]; simp only [List.length_cons, List.length_nil]; omega, hTn, B3⟩
        | true =>
          by_cases hjl : j + 1 < 2
          · have hwa : IntKind.i64.wrap ((p : Int) + ((j : Int) + 1)) = (p : Int) + ((j : Int) + 1) := IntWalk.i64_in _ (by omega)
            have hwk : IntKind.i64.wrap ((j : Int) + 1 + 1) = (j : Int) + 1 + 1 := IntWalk.i64_in _ (by omega)
            have kx := hx (j + 1) (by omega)
            have hh := hg8 (j + 1)
            have hs := hsm j (by omega)
            have hst : stepU g (g 0 % 32) (j + 1) = stepU g (g 0 % 32) j * 64 + g (j + 1) % 64 := rfl
            have hjz : (j : Int) + 1 < 2 := by omega
            have hprev : Hid (∀ i, i < j + 1 → 1 ≤ i → g i / 64 = 2) := Lib.hid fun i h1 h2 => by
              by_cases e : i = j
              · subst e; exact (hI.out.2.1 rfl).resolve_left (by omega)
              · exact hI.out.1 i (by omega) h2
            generalize stepU g (g 0 % 32) j = r at *
            have hy : (g (j + 1) : Int) < 256 := by omega
            have hyp : (0 : Int) ≤ (g (j + 1) : Int) := by omega
            have a63 := u8_and63 _ hyp hy
            have tb : ((g (j + 1) : Int) / 64 == 2) = decide (g (j + 1) / 64 = 2) := by
              rw [Bool.eq_iff_iff]; simp; omega
            have hsh : IntKind.i32.wrap ((r : Int) * 64) = (r : Int) * 64 := IntWalk.i32_in _ (by omega)
            have hor : bits .or .i32 ((r : Int) * 64) ((g (j + 1) : Int) % 64) = (r : Int) * 64 + (g (j + 1) : Int) % 64 := i32_or6 _ _ (by omega) (by omega) (by omega) (by omega) (by omega)
            have hidx : (p : Int) + ((j : Int) + 1) < (l.length : Int) := by omega
            clear hI
            replace hgk2 := Lib.hid hgk2
            go_wp2_with fail
            go_roundg (2 - (j + 1))
            case measure => have := hgk2.out; omega
            case rel => exact ⟨j + 1, decide (g (j + 1) / 64 = 2), by rw [hst]; go_num, rfl, by go_num, by omega, rfl, Lib.hid ⟨hprev.out, by simp⟩, rfl⟩
          · obtain rfl : j = 1 := by omega
            have hall : ∀ i, i < 2 → 1 ≤ i → g i / 64 = 2 := fun i h1 h2 => by
              by_cases e : i = 1
              · subst e; exact (hI.out.2.1 rfl).resolve_left (by omega)
              · exact hI.out.1 i (by omega) h2
            have hok : okU g (l.length - p) = lastU 2 (stepU g (g 0 % 32) 1) := by
              unfold okU; rw [hle]
              have h3 : (0 < 2 ∧ 2 ≤ l.length - p ∧ ∀ i, i < 2 → 1 ≤ i → g i / 64 = 2) := ⟨by omega, by omega, hall⟩
              simp only [decide_eq_true h3, Bool.true_and]
              rfl
            have hs := hsm 1 (by omega)
            generalize stepU g (g 0 % 32) 1 = r at *
            clear hI hgk2 hall hx hg8 hle hsm
            go_upto_region 23 with fail
            have SQ := SB.new wr [.int .i32 0, .int .i32 0, .int .i32 128, .int .i32 2048, .int .i32 65536] 21
            have BB := bal wr (.cells #[.int .i32 0, .int .i32 0, .int .i32 128, .int .i32 2048, .int .i32 65536] 21)
            have OQ := O1.alloc (.cells #[.int .i32 0, .int .i32 0, .int .i32 128, .int .i32 2048, .int .i32 65536] 21)
            have BQ := B1.trans (BB.mono B1.size)
            obtain ⟨wq, hwq⟩ : ∃ wq, wq = wr.alloc (.cells #[.int .i32 0, .int .i32 0, .int .i32 128, .int .i32 2048, .int .i32 65536] 21) := ⟨_, rfl⟩
            rw [← hwq] at SQ OQ BQ ⊢
            clear hwq BB O1 B1
            have q2 := SQ.cell 2
            go_cut [8] (fun s8 wx => s8 = .bool (lastU 2 r) ∧ wx = wq)
            case first =>
              have hz1 : lastU 2 r = (decide (128 ≤ r) && (decide (r ≤ 1114111) && (decide (r < 55296) || decide (57343 < r)))) := rfl
              by_cases d1 : (128 : Int) ≤ (r : Int)
              · by_cases d2 : (r : Int) ≤ 1114111
                · by_cases d3 : (r : Int) < 55296
                  · have hf : Hid (lastU 2 r = true) := Lib.hid (by rw [hz1]; simp; omega)
                    clear hz1 hok
                    generalize lastU 2 r = z at *
                    go_wp2_with fail
                    go_meet
                    exact ⟨by rw [hf.out], rfl⟩
                  · by_cases d4 : (57343 : Int) < (r : Int)
                    · have hf : Hid (lastU 2 r = true) := Lib.hid (by rw [hz1]; simp; omega)
                      clear hz1 hok
                      generalize lastU 2 r = z at *
                      go_wp2_with fail
                      go_meet
                      exact ⟨by rw [hf.out], rfl⟩
                    · have hf : Hid (lastU 2 r = false) := Lib.hid (by rw [hz1]; simp; omega)
                      clear hz1 hok
                      generalize lastU 2 r = z at *
                      go_wp2_with fail
                      go_meet
                      exact ⟨by rw [hf.out], rfl⟩
                · have hf : Hid (lastU 2 r = false) := Lib.hid (by rw [hz1]; simp; omega)
                  clear hz1 hok
                  generalize lastU 2 r = z at *
                  go_wp2_with fail
                  go_meet
                  exact ⟨by rw [hf.out], rfl⟩
              · have hf : Hid (lastU 2 r = false) := Lib.hid (by rw [hz1]; simp; omega)
                clear hz1 hok
                generalize lastU 2 r = z at *
                go_wp2_with fail
                go_meet
                exact ⟨by rw [hf.out], rfl⟩
            case rest =>
              obtain ⟨rfl, rfl⟩ := hcut
              cases hla : lastU 2 r with
              | true =>
                have hgood : okU g (l.length - p) = true := by rw [hok, hla]
                clear hok hla SQ q2
                have hTn : Hid (((us ++ [((r : Int), false, (p : Int))]).any (·.2.1) || !Lib.validD (l.drop (p + 2))) = !Lib.validD l) := Lib.hid (by
                  have h2 := hT.out
                  rw [hn, if_pos hgood, hlead] at h2
                  rw [← h2]; simp)
                have S1 := SB.new wc [.int .i32 r, .bool false, .int .i64 p] 106
                have B2 := bal wc (.cells #[.int .i32 r, .bool false, .int .i64 p] 106)
                have hwi : IntKind.i64.wrap ((p : Int) + 2) = (p : Int) + 2 := IntWalk.i64_in _ (by omega)
                clear hT hn hgood
                go_wp2_with (at_builtin; refine wp_appU _ rfl _ _ rfl w.heap.size _ _ _ us rfl rfl (OQ.alloc _) wc.heap.size _ ((r : Int), false, (p : Int)) rfl (fun j u hj => (S1.1 j u hj).1) (by omega) (by have := BQ.size; simp; omega) ?_; intro A2 c2 w2 O2 G2)
                have B3 := BQ.trans ((B2.mono BQ.size).trans G2)
                go_roundg (l.length - (p + 2))
                case measure => omega
                case rel => exact ⟨A2, c2, us ++ [((r : Int), false, (p : Int))], p + 2, by simp, by go_num, by omega, rfl, O2, by rw [List.length_append]; simp only [List.length_cons, List.length_nil]; omega, hTn, B3⟩
              | false =>
                have hbad : okU g (l.length - p) = false := by rw [hok, hla]
                clear hok hla SQ q2
                have hval : (!Lib.validD l) = true := by
                  rw [← hT.out, hn, if_neg (by rw [hbad]; simp)]; simp
                have hTn : Hid (((us ++ [((0 : Int), true, (p : Int))]).any (·.2.1) || !Lib.validD (l.drop (p + 1))) = !Lib.validD l) := Lib.hid (by rw [hval]; simp)
                have S1 := SB.new wc [.int .i32 0, .bool true, .int .i64 p] 106
                have B2 := bal wc (.cells #[.int .i32 0, .bool true, .int .i64 p] 106)
                have hwi : IntKind.i64.wrap ((p : Int) + 1) = (p : Int) + 1 := IntWalk.i64_in _ (by omega)
                clear hT hn hval hbad
                go_wp2_with (at_builtin; refine wp_appU _ rfl _ _ rfl w.heap.size _ _ _ us rfl rfl (OQ.alloc _) wc.heap.size _ ((0 : Int), true, (p : Int)) rfl (fun j u hj => (S1.1 j u hj).1) (by omega) (by have := BQ.size; simp; omega) ?_; intro A2 c2 w2 O2 G2)
                have B3 := BQ.trans ((B2.mono BQ.size).trans G2)
                go_roundg (l.length - (p + 1))
                case measure => omega
                case rel => exact ⟨A2, c2, us ++ [((0 : Int), true, (p : Int))], p + 1, by simp, by go_num, by omega, rfl, O2, by rw [List.length_append]; simp only [List.length_cons, List.length_nil]; omega, hTn, B3⟩
    have n2 : ((g 0 : Int) / 32 == 6) = false := beq_false_of_ne (by omega)
    by_cases c3 : g 0 / 16 = 14
    · have t3 : ((g 0 : Int) / 16 == 14) = true := by rw [show (g 0 : Int) / 16 = 14 by omega]; rfl
      have hle : leadU (g 0) = (3, g 0 % 16) := by unfold leadU; rw [if_neg c1, if_neg c2, if_pos c3]
      have hlead : (leadU (g 0)).1 = 3 := by rw [hle]
      have hsm : ∀ j, j + 1 ≤ 3 → stepU g (g 0 % 16) j < 33554432 := fun j hj => by
        have := step_small (g 0) h0 g j (by rw [hle]; exact hj) (by rw [hle]; show 2 ≤ 3; decide)
        rw [hle] at this; exact this
      have hwj : IntKind.i64.wrap ((p : Int) + 3) = (p : Int) + 3 := IntWalk.i64_in _ (by omega)
      by_cases hfit : p + 3 ≤ l.length
      rotate_left
      · have hbad : okU g (l.length - p) = false := by
          unfold okU; rw [hle]; simp; omega
        have t9 : ¬ (p : Int) + 3 ≤ (l.length : Int) := by omega
        clear hx hg8 hle
        go_upto_region 16 with fail
        go_loopg [6, 8, 9, 10] 0 (fun gk s6 s8 s9 s10 wx => s8 = .bool false ∧ s9 = .int .i64 1 ∧ wx = wr)
        case atStart => exact ⟨rfl, rfl, rfl⟩
        case round =>
          obtain ⟨rfl, rfl, rfl⟩ := hrel
          have hval : (!Lib.validD l) = true := by
            rw [← hT.out, hn, if_neg (by rw [hbad]; simp)]; simp
          have hTn : Hid (((us ++ [((0 : Int), true, (p : Int))]).any (·.2.1) || !Lib.validD (l.drop (p + 1))) = !Lib.validD l) := Lib.hid (by rw [hval]; simp)
          have S1 := SB.new wr [.int .i32 0, .bool true, .int .i64 p] 106
          have B2 := bal wr (.cells #[.int .i32 0, .bool true, .int .i64 p] 106)
          have hwi : IntKind.i64.wrap ((p : Int) + 1) = (p : Int) + 1 := IntWalk.i64_in _ (by omega)
          clear hT hn hval hbad
          go_wp2_with (at_builtin; refine wp_appU _ rfl _ _ rfl w.heap.size _ _ _ us rfl rfl (O1.alloc _) wr.heap.size _ ((0 : Int), true, (p : Int)) rfl (fun j u hj => (S1.1 j u hj).1) (by omega) (by have := B1.size; simp; omega) ?_; intro A2 c2 w2 O2 G2)
          have B3 := B1.trans ((B2.mono B1.size).trans G2)
          go_roundg (l.length - (p + 1))
          case measure => omega
          case rel => exact ⟨A2, c2, us ++ [((0 : Int), true, (p : Int))], p + 1, by simp, by go_num, by omega, rfl, O2, by rw [List.length_append]; simp only [List.length_cons, List.length_nil]; omega, hTn, B3⟩
      have t9 : (p : Int) + 3 ≤ (l.length : Int) := by omega
      go_upto_region 16 with fail
      go_loopg [6, 8, 9, 10] 3 (fun gk s6 s8 s9 s10 wx => ∃ (j : Nat) (ok : Bool), s6 = .int .i32 ((stepU g (g 0 % 16) j : Nat) : Int) ∧ s8 = .bool ok ∧ s9 = .int .i64 ((j : Int) + 1) ∧ j < 3 ∧ 3 - j = gk ∧ Hid ((∀ i, i < j → 1 ≤ i → g i / 64 = 2) ∧ (ok = true ↔ (j = 0 ∨ g j / 64 = 2))) ∧ wx = wr)
      case atStart => exact ⟨0, true, by rw [stepU]; simp, rfl, by simp, by omega, rfl, Lib.hid ⟨fun i h => by omega, by simp⟩, rfl⟩
      case round =>
        obtain ⟨j, ok, rfl, rfl, rfl, hjn, hgk2, hI, rfl⟩ := hrel
        cases ok with
        | false =>
          have hbad : okU g (l.length - p) = false := by
            have h2 : ¬ (j = 0 ∨ g j / 64 = 2) := fun h => by have := hI.out.2.2 h; cases this
            have h3 : ¬ (0 < 3 ∧ 3 ≤ l.length - p ∧ ∀ i, i < 3 → 1 ≤ i → g i / 64 = 2) := fun h => h2 (by
              by_cases hj0 : j = 0
              · exact .inl hj0
              · exact .inr (h.2.2 j hjn (by omega)))
            unfold okU; rw [hle]
            simp only [decide_eq_false h3, Bool.false_and]
          clear hI hx hg8 hle hsm
          have hval : (!Lib.validD l) = true := by
            rw [← hT.out, hn, if_neg (by rw [hbad]; simp)]; simp
          have hTn : Hid (((us ++ [((0 : Int), true, (p : Int))]).any (·.2.1) || !Lib.validD (l.drop (p + 1))) = !Lib.validD l) := Lib.hid (by rw [hval]; simp)
          have S1 := SB.new wr [.int .i32 0, .bool true, .int .i64 p] 106
          have B2 := bal wr (.cells #[.int .i32 0, .bool true, .int .i64 p] 106)
          have hwi : IntKind.i64.wrap ((p : Int) + 1) = (p : Int) + 1 := IntWalk.i64_in _ (by omega)
          clear hT hn hval hbad
          go_wp2_with (at_builtin; refine wp_appU _ rfl _ _ rfl w.heap.size _ _ _ us rfl rfl (O1.alloc _) wr.heap.size _ ((0 : Int), true, (p : Int)) rfl (fun j u hj => (S1.1 j u hj).1) (by omega) (by have := B1.size; simp; omega) ?_; intro A2 c2 w2 O2 G2)
          have B3 := B1.trans ((B2.mono B1.size).trans G2)
          go_roundg (l.length - (p + 1))
          case measure => omega
          case rel => exact ⟨A2, c2, us ++ [((0 : Int), true, (p : Int))], p + 1, by simp, by go_num, by omega, rfl, O2, by rw [List.length_append]; simp only [List.length_cons, List.length_nil]; omega, hTn, B3⟩
        | true =>
          by_cases hjl : j + 1 < 3
          · have hwa : IntKind.i64.wrap ((p : Int) + ((j : Int) + 1)) = (p : Int) + ((j : Int) + 1) := IntWalk.i64_in _ (by omega)
            have hwk : IntKind.i64.wrap ((j : Int) + 1 + 1) = (j : Int) + 1 + 1 := IntWalk.i64_in _ (by omega)
            have kx := hx (j + 1) (by omega)
            have hh := hg8 (j + 1)
            have hs := hsm j (by omega)
            have hst : stepU g (g 0 % 16) (j + 1) = stepU g (g 0 % 16) j * 64 + g (j + 1) % 64 := rfl
            have hjz : (j : Int) + 1 < 3 := by omega
            have hprev : Hid (∀ i, i < j + 1 → 1 ≤ i → g i / 64 = 2) := Lib.hid fun i h1 h2 => by
              by_cases e : i = j
              · subst e; exact (hI.out.2.1 rfl).resolve_left (by omega)
              · exact hI.out.1 i (by omega) h2
            generalize stepU g (g 0 % 16) j = r at *
            have hy : (g (j + 1) : Int) < 256 := by omega
            have hyp : (0 : Int) ≤ (g (j + 1) : Int) := by omega
            have a63 := u8_and63 _ hyp hy
            have tb : ((g (j + 1) : Int) / 64 == 2) = decide (g (j + 1) / 64 = 2) := by
              rw [Bool.eq_iff_iff]; simp; omega
            have hsh : IntKind.i32.wrap ((r : Int) * 64) = (r : Int) * 64 := IntWalk.i32_in _ (by omega)
            have hor : bits .or .i32 ((r : Int) * 64) ((g (j + 1) : Int) % 64) = (r : Int) * 64 + (g (j + 1) : Int) % 64 := i32_or6 _ _ (by omega) (by omega) (by omega) (by omega) (by omega)
            have hidx : (p : Int) + ((j : Int) + 1) < (l.length : Int) := by omega
            clear hI
            replace hgk2 := Lib.hid hgk2
            go_wp2_with fail
            go_roundg (3 - (j + 1))
            case measure => have := hgk2.out; omega
            case rel => exact ⟨j + 1, decide (g (j + 1) / 64 = 2), by rw [hst]; go_num, rfl, by go_num, by omega, rfl, Lib.hid ⟨hprev.out, by simp⟩, rfl⟩
          · obtain rfl : j = 2 := by omega
            have hall : ∀ i, i < 3 → 1 ≤ i → g i / 64 = 2 := fun i h1 h2 => by
              by_cases e : i = 2
              · subst e; exact (hI.out.2.1 rfl).resolve_left (by omega)
              · exact hI.out.1 i (by omega) h2
            have hok : okU g (l.length - p) = lastU 3 (stepU g (g 0 % 16) 2) := by
              unfold okU; rw [hle]
              have h3 : (0 < 3 ∧ 3 ≤ l.length - p ∧ ∀ i, i < 3 → 1 ≤ i → g i / 64 = 2) := ⟨by omega, by omega, hall⟩
              simp only [decide_eq_true h3, Bool.true_and]
              rfl
            have hs := hsm 2 (by omega)
            generalize stepU g (g 0 % 16) 2 = r at *
            clear hI hgk2 hall hx hg8 hle hsm
            go_upto_region 23 with fail
            have SQ := SB.new wr [.int .i32 0, .int .i32 0, .int .i32 128, .int .i32 2048, .int .i32 65536] 21
            have BB := bal wr (.cells #[.int .i32 0, .int .i32 0, .int .i32 128, .int .i32 2048, .int .i32 65536] 21)
            have OQ := O1.alloc (.cells #[.int .i32 0, .int .i32 0, .int .i32 128, .int .i32 2048, .int .i32 65536] 21)
            have BQ := B1.trans (BB.mono B1.size)
            obtain ⟨wq, hwq⟩ : ∃ wq, wq = wr.alloc (.cells #[.int .i32 0, .int .i32 0, .int .i32 128, .int .i32 2048, .int .i32 65536] 21) := ⟨_, rfl⟩
            rw [← hwq] at SQ OQ BQ ⊢
            clear hwq BB O1 B1
            have q2 := SQ.cell 3
            go_cut [8] (fun s8 wx => s8 = .bool (lastU 3 r) ∧ wx = wq)
            case first =>
              have hz1 : lastU 3 r = (decide (2048 ≤ r) && (decide (r ≤ 1114111) && (decide (r < 55296) || decide (57343 < r)))) := rfl
              by_cases d1 : (2048 : Int) ≤ (r : Int)
              · by_cases d2 : (r : Int) ≤ 1114111
                · by_cases d3 : (r : Int) < 55296
                  · have hf : Hid (lastU 3 r = true) := Lib.hid (by rw [hz1]; simp; omega)
                    clear hz1 hok
                    generalize lastU 3 r = z at *
                    go_wp2_with fail
                    go_meet
                    exact ⟨by rw [hf.out], rfl⟩
                  · by_cases d4 : (57343 : Int) < (r : Int)
                    · have hf : Hid (lastU 3 r = true) := Lib.hid (by rw [hz1]; simp; omega)
                      clear hz1 hok
                      generalize lastU 3 r = z at *
                      go_wp2_with fail
                      go_meet
                      exact ⟨by rw [hf.out], rfl⟩
                    · have hf : Hid (lastU 3 r = false) := Lib.hid (by rw [hz1]; simp; omega)
                      clear hz1 hok
                      generalize lastU 3 r = z at *
                      go_wp2_with fail
                      go_meet
                      exact ⟨by rw [hf.out], rfl⟩
                · have hf : Hid (lastU 3 r = false) := Lib.hid (by rw [hz1]; simp; omega)
                  clear hz1 hok
                  generalize lastU 3 r = z at *
                  go_wp2_with fail
                  go_meet
                  exact ⟨by rw [hf.out], rfl⟩
              · have hf : Hid (lastU 3 r = false) := Lib.hid (by rw [hz1]; simp; omega)
                clear hz1 hok
                generalize lastU 3 r = z at *
                go_wp2_with fail
                go_meet
                exact ⟨by rw [hf.out], rfl⟩
            case rest =>
              obtain ⟨rfl, rfl⟩ := hcut
              cases hla : lastU 3 r with
              | true =>
                have hgood : okU g (l.length - p) = true := by rw [hok, hla]
                clear hok hla SQ q2
                have hTn : Hid (((us ++ [((r : Int), false, (p : Int))]).any (·.2.1) || !Lib.validD (l.drop (p + 3))) = !Lib.validD l) := Lib.hid (by
                  have h2 := hT.out
                  rw [hn, if_pos hgood, hlead] at h2
                  rw [← h2]; simp)
                have S1 := SB.new wc [.int .i32 r, .bool false, .int .i64 p] 106
                have B2 := bal wc (.cells #[.int .i32 r, .bool false, .int .i64 p] 106)
                have hwi : IntKind.i64.wrap ((p : Int) + 3) = (p : Int) + 3 := IntWalk.i64_in _ (by omega)
                clear hT hn hgood
                go_wp2_with (at_builtin; refine wp_appU _ rfl _ _ rfl w.heap.size _ _ _ us rfl rfl (OQ.alloc _) wc.heap.size _ ((r : Int), false, (p : Int)) rfl (fun j u hj => (S1.1 j u hj).1) (by omega) (by have := BQ.size; simp; omega) ?_; intro A2 c2 w2 O2 G2)
                have B3 := BQ.trans ((B2.mono BQ.size).trans G2)
                go_roundg (l.length - (p + 3))
                case measure => omega
                case rel => exact ⟨A2, c2, us ++ [((r : Int), false, (p : Int))], p + 3, by simp, by go_num, by omega, rfl, O2, by rw [List.length_append]; simp only [List.length_cons, List.length_nil]; omega, hTn, B3⟩
              | false =>
                have hbad : okU g (l.length - p) = false := by rw [hok, hla]
                clear hok hla SQ q2
                have hval : (!Lib.validD l) = true := by
                  rw [← hT.out, hn, if_neg (by rw [hbad]; simp)]; simp
                have hTn : Hid (((us ++ [((0 : Int), true, (p : Int))]).any (·.2.1) || !Lib.validD (l.drop (p + 1))) = !Lib.validD l) := Lib.hid (by rw [hval]; simp)
                have S1 := SB.new wc [.int .i32 0, .bool true, .int .i64 p] 106
                have B2 := bal wc (.cells #[.int .i32 0, .bool true, .int .i64 p] 106)
                have hwi : IntKind.i64.wrap ((p : Int) + 1) = (p : Int) + 1 := IntWalk.i64_in _ (by omega)
                clear hT hn hval hbad
                go_wp2_with (at_builtin; refine wp_appU _ rfl _ _ rfl w.heap.size _ _ _ us rfl rfl (OQ.alloc _) wc.heap.size _ ((0 : Int), true, (p : Int)) rfl (fun j u hj => (S1.1 j u hj).1) (by omega) (by have := BQ.size; simp; omega) ?_; intro A2 c2 w2 O2 G2)
                have B3 := BQ.trans ((B2.mono BQ.size).trans G2)
                go_roundg (l.length - (p + 1))
                case measure => omega
                case rel => exact ⟨A2, c2, us ++ [((0 : Int), true, (p : Int))], p + 1, by simp, by go_num, by omega, rfl, O2, by rw [List.length_append]; simp only [List.length_cons, List.length_nil]; omega, hTn, B3⟩
    have n3 : ((g 0 : Int) / 16 == 14) = false := beq_false_of_ne (by omega)
    by_cases c4 : g 0 / 8 = 30
    · have t4 : ((g 0 : Int) / 8 == 30) = true := by rw [show (g 0 : Int) / 8 = 30 by omega]; rfl
      have hle : leadU (g 0) = (4, g 0 % 8) := by unfold leadU; rw [if_neg c1, if_neg c2, if_neg c3, if_pos c4]
      have hlead : (leadU (g 0)).1 = 4 := by rw [hle]
      have hsm : ∀ j, j + 1 ≤ 4 → stepU g (g 0 % 8) j < 33554432 := fun j hj => by
        have := step_small (g 0) h0 g j (by rw [hle]; exact hj) (by rw [hle]; show 2 ≤ 4; decide)
        rw [hle] at this; exact this
      have hwj : IntKind.i64.wrap ((p : Int) + 4) = (p : Int) + 4 := IntWalk.i64_in _ (by omega)
      by_cases hfit : p + 4 ≤ l.length
      rotate_left
      · have hbad : okU g (l.length - p) = false := by
          unfold okU; rw [hle]; simp; omega
        have t9 : ¬ (p : Int) + 4 ≤ (l.length : Int) := by omega
        clear hx hg8 hle
        go_upto_region 16 with fail
        go_loopg [6, 8, 9, 10] 0 (fun gk s6 s8 s9 s10 wx => s8 = .bool false ∧ s9 = .int .i64 1 ∧ wx = wr)
        case atStart => exact ⟨rfl, rfl, rfl⟩
        case round =>
          obtain ⟨rfl, rfl, rfl⟩ := hrel
          have hval : (!Lib.validD l) = true := by
            rw [← hT.out, hn, if_neg (by rw [hbad]; simp)]; simp
          have hTn : Hid (((us ++ [((0 : Int), true, (p : Int))]).any (·.2.1) || !Lib.validD (l.drop (p + 1))) = !Lib.validD l) := Lib.hid (by rw [hval]; simp)
          have S1 := SB.new wr [.int .i32 0, .bool true, .int .i64 p] 106
          have B2 := bal wr (.cells #[.int .i32 0, .bool true, .int .i64 p] 106)
          have hwi : IntKind.i64.wrap ((p : Int) + 1) = (p : Int) + 1 := IntWalk.i64_in _ (by omega)
          clear hT hn hval hbad
          go_wp2_with (at_builtin; refine wp_appU _ rfl _ _ rfl w.heap.size _ _ _ us rfl rfl (O1.alloc _) wr.heap.size _ ((0 : Int), true, (p : Int)) rfl (fun j u hj => (S1.1 j u hj).1) (by omega) (by have := B1.size; simp; omega) ?_; intro A2 c2 w2 O2 G2)
          have B3 := B1.trans ((B2.mono B1.size).trans G2)
          go_roundg (l.length - (p + 1))
          case measure => omega
          case rel => exact ⟨A2, c2, us ++ [((0 : Int), true, (p : Int))], p + 1, by simp, by go_num, by omega, rfl, O2, by rw [List.length_append]; simp only [List.length_cons, List.length_nil]; omega, hTn, B3⟩
      have t9 : (p : Int) + 4 ≤ (l.length : Int) := by omega
      go_upto_region 16 with fail
      go_loopg [6, 8, 9, 10] 4 (fun gk s6 s8 s9 s10 wx => ∃ (j : Nat) (ok : Bool), s6 = .int .i32 ((stepU g (g 0 % 8) j : Nat) : Int) ∧ s8 = .bool ok ∧ s9 = .int .i64 ((j : Int) + 1) ∧ j < 4 ∧ 4 - j = gk ∧ Hid ((∀ i, i < j → 1 ≤ i → g i / 64 = 2) ∧ (ok = true ↔ (j = 0 ∨ g j / 64 = 2))) ∧ wx = wr)
      case atStart => exact ⟨0, true, by rw [stepU]; simp, rfl, by simp, by omega, rfl, Lib.hid ⟨fun i h => by omega, by simp⟩, rfl⟩
      case round =>
        obtain ⟨j, ok, rfl, rfl, rfl, hjn, hgk2, hI, rfl⟩ := hrel
        cases ok with
        | false =>
          have hbad : okU g (l.length - p) = false := by
            have h2 : ¬ (j = 0 ∨ g j / 64 = 2) := fun h => by have := hI.out.2.2 h; cases this
            have h3 : ¬ (0 < 4 ∧ 4 ≤ l.length - p ∧ ∀ i, i < 4 → 1 ≤ i → g i / 64 = 2) := fun h => h2 (by
              by_cases hj0 : j = 0
              · exact .inl hj0
              · exact .inr (h.2.2 j hjn (by omega)))
            unfold okU; rw [hle]
            simp only [decide_eq_false h3, Bool.false_and]
          clear hI hx hg8 hle hsm
          have hval : (!Lib.validD l) = true := by
            rw [← hT.out, hn, if_neg (by rw [hbad]; simp)]; simp
          have hTn : Hid (((us ++ [((0 : Int), true, (p : Int))]).any (·.2.1) || !Lib.validD (l.drop (p + 1))) = !Lib.validD l) := Lib.hid (by rw [hval]; simp)
          have S1 := SB.new wr [.int .i32 0, .bool true, .int .i64 p] 106
          have B2 := bal wr (.cells #[.int .i32 0, .bool true, .int .i64 p] 106)
          have hwi : IntKind.i64.wrap ((p : Int) + 1) = (p : Int) + 1 := IntWalk.i64_in _ (by omega)
          clear hT hn hval hbad
          go_wp2_with (at_builtin; refine wp_appU _ rfl _ _ rfl w.heap.size _ _ _ us rfl rfl (O1.alloc _) wr.heap.size _ ((0 : Int), true, (p : Int)) rfl (fun j u hj => (S1.1 j u hj).1) (by omega) (by have := B1.size; simp; omega) ?_; intro A2 c2 w2 O2 G2)
          have B3 := B1.trans ((B2.mono B1.size).trans G2)
          go_roundg (l.length - (p + 1))
          case measure => omega
          case rel => exact ⟨A2, c2, us ++ [((0 : Int), true, (p : Int))], p + 1, by simp, by go_num, by omega, rfl, O2, by rw [List.length_append]; simp only [List.length_cons, List.length_nil]; omega, hTn, B3⟩
        | true =>
          by_cases hjl : j + 1 < 4
          · have hwa : IntKind.i64.wrap ((p : Int) + ((j : Int) + 1)) = (p : Int) + ((j : Int) + 1) := IntWalk.i64_in _ (by omega)
            have hwk : IntKind.i64.wrap ((j : Int) + 1 + 1) = (j : Int) + 1 + 1 := IntWalk.i64_in _ (by omega)
            have kx := hx (j + 1) (by omega)
            have hh := hg8 (j + 1)
            have hs := hsm j (by omega)
            have hst : stepU g (g 0 % 8) (j + 1) = stepU g (g 0 % 8) j * 64 + g (j + 1) % 64 := rfl
            have hjz : (j : Int) + 1 < 4 := by omega
            have hprev : Hid (∀ i, i < j + 1 → 1 ≤ i → g i / 64 = 2) := Lib.hid fun i h1 h2 => by
              by_cases e : i = j
              · subst e; exact (hI.out.2.1 rfl).resolve_left (by omega)
              · exact hI.out.1 i (by omega) h2
            generalize stepU g (g 0 % 8) j = r at *
            have hy : (g (j + 1) : Int) < 256 := by omega
            have hyp : (0 : Int) ≤ (g (j + 1) : Int) := by omega
            have a63 := u8_and63 _ hyp hy
            have tb : ((g (j + 1) : Int) / 64 == 2) = decide (g (j + 1) / 64 = 2) := by
              rw [Bool.eq_iff_iff]; simp; omega
            have hsh : IntKind.i32.wrap ((r : Int) * 64) = (r : Int) * 64 := IntWalk.i32_in _ (by omega)
            have hor : bits .or .i32 ((r : Int) * 64) ((g (j + 1) : Int) % 64) = (r : Int) * 64 + (g (j + 1) : Int) % 64 := i32_or6 _ _ (by omega) (by omega) (by omega) (by omega) (by omega)
            have hidx : (p : Int) + ((j : Int) + 1) < (l.length : Int) := by omega
            clear hI
            replace hgk2 := Lib.hid hgk2
            go_wp2_with fail
            go_roundg (4 - (j + 1))
            case measure => have := hgk2.out; omega
            case rel => exact ⟨j + 1, decide (g (j + 1) / 64 = 2), by rw [hst]; go_num, rfl, by go_num, by omega, rfl, Lib.hid ⟨hprev.out, by simp⟩, rfl⟩
          · obtain rfl : j = 3 := by omega
            have hall : ∀ i, i < 4 → 1 ≤ i → g i / 64 = 2 := fun i h1 h2 => by
              by_cases e : i = 3
              · subst e; exact (hI.out.2.1 rfl).resolve_left (by omega)
              · exact hI.out.1 i (by omega) h2
            have hok : okU g (l.length - p) = lastU 4 (stepU g (g 0 % 8) 3) := by
              unfold okU; rw [hle]
              have h3 : (0 < 4 ∧ 4 ≤ l.length - p ∧ ∀ i, i < 4 → 1 ≤ i → g i / 64 = 2) := ⟨by omega, by omega, hall⟩
              simp only [decide_eq_true h3, Bool.true_and]
              rfl
            have hs := hsm 3 (by omega)
            generalize stepU g (g 0 % 8) 3 = r at *
            clear hI hgk2 hall hx hg8 hle hsm
            go_upto_region 23 with fail
            have SQ := SB.new wr [.int .i32 0, .int .i32 0, .int .i32 128, .int .i32 2048, .int .i32 65536] 21
            have BB := bal wr (.cells #[.int .i32 0, .int .i32 0, .int .i32 128, .int .i32 2048, .int .i32 65536] 21)
            have OQ := O1.alloc (.cells #[.int .i32 0, .int .i32 0, .int .i32 128, .int .i32 2048, .int .i32 65536] 21)
            have BQ := B1.trans (BB.mono B1.size)
            obtain ⟨wq, hwq⟩ : ∃ wq, wq = wr.alloc (.cells #[.int .i32 0, .int .i32 0, .int .i32 128, .int .i32 2048, .int .i32 65536] 21) := ⟨_, rfl⟩
            rw [← hwq] at SQ OQ BQ ⊢
            clear hwq BB O1 B1
            have q2 := SQ.cell 4
            go_cut [8] (fun s8 wx => s8 = .bool (lastU 4 r) ∧ wx = wq)
            case first =>
              have hz1 : lastU 4 r = (decide (65536 ≤ r) && (decide (r ≤ 1114111) && (decide (r < 55296) || decide (57343 < r)))) := rfl
              by_cases d1 : (65536 : Int) ≤ (r : Int)
              · by_cases d2 : (r : Int) ≤ 1114111
                · by_cases d3 : (r : Int) < 55296
                  · have hf : Hid (lastU 4 r = true) := Lib.hid (by rw [hz1]; simp; omega)
                    clear hz1 hok
                    generalize lastU 4 r = z at *
                    go_wp2_with fail
                    go_meet
                    exact ⟨by rw [hf.out], rfl⟩
                  · by_cases d4 : (57343 : Int) < (r : Int)
                    · have hf : Hid (lastU 4 r = true) := Lib.hid (by rw [hz1]; simp; omega)
                      clear hz1 hok
                      generalize lastU 4 r = z at *
                      go_wp2_with fail
                      go_meet
                      exact ⟨by rw [hf.out], rfl⟩
                    · have hf : Hid (lastU 4 r = false) := Lib.hid (by rw [hz1]; simp; omega)
                      clear hz1 hok
                      generalize lastU 4 r = z at *
                      go_wp2_with fail
                      go_meet
                      exact ⟨by rw [hf.out], rfl⟩
                · have hf : Hid (lastU 4 r = false) := Lib.hid (by rw [hz1]; simp; omega)
                  clear hz1 hok
                  generalize lastU 4 r = z at *
                  go_wp2_with fail
                  go_meet
                  exact ⟨by rw [hf.out], rfl⟩
              · have hf : Hid (lastU 4 r = false) := Lib.hid (by rw [hz1]; simp; omega)
                clear hz1 hok
                generalize lastU 4 r = z at *
                go_wp2_with fail
                go_meet
                exact ⟨by rw [hf.out], rfl⟩
            case rest =>
              obtain ⟨rfl, rfl⟩ := hcut
              cases hla : lastU 4 r with
              | true =>
                have hgood : okU g (l.length - p) = true := by rw [hok, hla]
                clear hok hla SQ q2
                have hTn : Hid (((us ++ [((r : Int), false, (p : Int))]).any (·.2.1) || !Lib.validD (l.drop (p + 4))) = !Lib.validD l) := Lib.hid (by
                  have h2 := hT.out
                  rw [hn, if_pos hgood, hlead] at h2
                  rw [← h2]; simp)
                have S1 := SB.new wc [.int .i32 r, .bool false, .int .i64 p] 106
                have B2 := bal wc (.cells #[.int .i32 r, .bool false, .int .i64 p] 106)
                have hwi : IntKind.i64.wrap ((p : Int) + 4) = (p : Int) + 4 := IntWalk.i64_in _ (by omega)
                clear hT hn hgood
                go_wp2_with (at_builtin; refine wp_appU _ rfl _ _ rfl w.heap.size _ _ _ us rfl rfl (OQ.alloc _) wc.heap.size _ ((r : Int), false, (p : Int)) rfl (fun j u hj => (S1.1 j u hj).1) (by omega) (by have := BQ.size; simp; omega) ?_; intro A2 c2 w2 O2 G2)
                have B3 := BQ.trans ((B2.mono BQ.size).trans G2)
                go_roundg (l.length - (p + 4))
                case measure => omega
                case rel => exact ⟨A2, c2, us ++ [((r : Int), false, (p : Int))], p + 4, by simp, by go_num, by omega, rfl, O2, by rw [List.length_append]; simp only [List.length_cons, List.length_nil]; omega, hTn, B3⟩
              | false =>
                have hbad : okU g (l.length - p) = false := by rw [hok, hla]
                clear hok hla SQ q2
                have hval : (!Lib.validD l) = true := by
                  rw [← hT.out, hn, if_neg (by rw [hbad]; simp)]; simp
                have hTn : Hid (((us ++ [((0 : Int), true, (p : Int))]).any (·.2.1) || !Lib.validD (l.drop (p + 1))) = !Lib.validD l) := Lib.hid (by rw [hval]; simp)
                have S1 := SB.new wc [.int .i32 0, .bool true, .int .i64 p] 106
                have B2 := bal wc (.cells #[.int .i32 0, .bool true, .int .i64 p] 106)
                have hwi : IntKind.i64.wrap ((p : Int) + 1) = (p : Int) + 1 := IntWalk.i64_in _ (by omega)
                clear hT hn hval hbad
                go_wp2_with (at_builtin; refine wp_appU _ rfl _ _ rfl w.heap.size _ _ _ us rfl rfl (OQ.alloc _) wc.heap.size _ ((0 : Int), true, (p : Int)) rfl (fun j u hj => (S1.1 j u hj).1) (by omega) (by have := BQ.size; simp; omega) ?_; intro A2 c2 w2 O2 G2)
                have B3 := BQ.trans ((B2.mono BQ.size).trans G2)
                go_roundg (l.length - (p + 1))
                case measure => omega
                case rel => exact ⟨A2, c2, us ++ [((0 : Int), true, (p : Int))], p + 1, by simp, by go_num, by omega, rfl, O2, by rw [List.length_append]; simp only [List.length_cons, List.length_nil]; omega, hTn, B3⟩
    have hle : leadU (g 0) = (0, 0) := by unfold leadU; rw [if_neg c1, if_neg c2, if_neg c3, if_neg c4]
    have hbad : okU g (l.length - p) = false := by
      unfold okU; rw [hle]; simp
    have n4 : ((g 0 : Int) / 8 == 30) = false := beq_false_of_ne (by omega)
    clear hx hg8 hle
    go_upto_region 16 with fail
    go_loopg [6, 8, 9, 10] 0 (fun gk s6 s8 s9 s10 wx => s8 = .bool false ∧ s9 = .int .i64 1 ∧ wx = wr)
    case atStart => exact ⟨rfl, rfl, rfl⟩
    case round =>
      obtain ⟨rfl, rfl, rfl⟩ := hrel
      have hval : (!Lib.validD l) = true := by
        rw [← hT.out, hn, if_neg (by rw [hbad]; simp)]; simp
      have hTn : Hid (((us ++ [((0 : Int), true, (p : Int))]).any (·.2.1) || !Lib.validD (l.drop (p + 1))) = !Lib.validD l) := Lib.hid (by rw [hval]; simp)
      have S1 := SB.new wr [.int .i32 0, .bool true, .int .i64 p] 106
      have B2 := bal wr (.cells #[.int .i32 0, .bool true, .int .i64 p] 106)
      have hwi : IntKind.i64.wrap ((p : Int) + 1) = (p : Int) + 1 := IntWalk.i64_in _ (by omega)
      clear hT hn hval hbad
      go_wp2_with (at_builtin; refine wp_appU _ rfl _ _ rfl w.heap.size _ _ _ us rfl rfl (O1.alloc _) wr.heap.size _ ((0 : Int), true, (p : Int)) rfl (fun j u hj => (S1.1 j u hj).1) (by omega) (by have := B1.size; simp; omega) ?_; intro A2 c2 w2 O2 G2)
      have B3 := B1.trans ((B2.mono B1.size).trans G2)
      go_roundg (l.length - (p + 1))
      case measure => omega
      case rel => exact ⟨A2, c2, us ++ [((0 : Int), true, (p : Int))], p + 1, by simp, by go_num, by omega, rfl, O2, by rw [List.length_append]; simp only [List.length_cons, List.length_nil]; omega, hTn, B3⟩
end Go.Proofs.YtilhnjecnhpmlaaDoor
