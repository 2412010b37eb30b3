/- Merged texts: MemK, RowE, NumE. -/
import Derived.Test.YtabcnpcfknlmlaaGB
import Derived.Deep.MidRow
import Derived.Test.YtabcnpcfknlmlaaGF
namespace Go.Proofs.Ytabcnpcfknlmlaa
open Go.RowKit

/-- a slice of the call's own holds the list l; f: an element's k cells -/
def OK {α : Type} (e : TypeId) (k : Nat) (f : α → List Value) (w : World) (base : Nat) (A : Option Addr) (c : Nat) (l : List α) : Prop :=
  w.ownsRow base e k (.slice A l.length c) l.length (l.flatMap f)
section
variable {α : Type} {e : TypeId} {k : Nat} {f : α → List Value} {w w' : World} {base B : Nat} {A : Option Addr} {c : Nat} {l : List α}
theorem OK.nil (e : TypeId) (k : Nat) (f : α → List Value) (w : World) (base : Nat) : OK e k f w base none 0 ([] : List α) := World.ownsRow_nil w base e k
theorem OK.empty (e : TypeId) (k : Nat) (f : α → List Value) (w : World) : OK e k f (w.alloc (.cells #[] e)) w.heap.size (some ⟨w.heap.size, 0, none⟩) 0 ([] : List α) := by
  have h := World.ownsRow_lit (base := w.heap.size) (e := e) (size := k) w #[] 0 (Nat.le_refl _) (by unfold maxLen; omega) (by simp)
  exact h
theorem OK.form (h : OK e k f w base A c l) : (A = none ∧ c = 0 ∧ l = []) ∨ ∃ g, A = some ⟨g, 0, none⟩ ∧ base ≤ g ∧ g < w.heap.size ∧ l.length ≤ c := by
  rcases h.2 with ⟨e, h0⟩ | ⟨g, cap, cur, e, hb, hh, hn, _⟩
  · simp only [Value.slice.injEq] at e
    exact .inl ⟨e.1, e.2.2, List.eq_nil_of_length_eq_zero h0⟩
  · simp only [Value.slice.injEq] at e
    obtain ⟨e1, e2, e3⟩ := e
    subst e3
    exact .inr ⟨g, e1, hb, (Array.getElem?_eq_some_iff.1 hh).1, hn⟩
theorem OK.lc (h : OK e k f w base A c l) : l.length ≤ c := by
  rcases h.form with ⟨_, _, rfl⟩ | ⟨g, _, _, _, h⟩
  · simp
  · exact h
theorem OK.lt {g : Nat} (h : OK e k f w base (some ⟨g, 0, none⟩) c l) : base ≤ g ∧ g < w.heap.size := by
  rcases h.form with ⟨e, _⟩ | ⟨g', e, h1, h2, _⟩
  · cases e
  · simp only [Option.some.injEq, Addr.mk.injEq, and_true] at e
    subst e
    exact ⟨h1, h2⟩
theorem OK.base_le (h : OK e k f w base A c l) (hb : B ≤ base) : OK e k f w B A c l := by
  refine ⟨h.1, ?_⟩
  rcases h.2 with h2 | ⟨g, cap, cur, a, b, r⟩
  · exact .inl h2
  · exact .inr ⟨g, cap, cur, a, by omega, r⟩
theorem OK.kept (h : OK e k f w base A c l) (hk : ∀ g, A = some ⟨g, 0, none⟩ → w'.heap[g]? = w.heap[g]?) : OK e k f w' base A c l := by
  refine ⟨h.1, ?_⟩
  rcases h.2 with h2 | ⟨g, cap, cur, a, b, hh, r⟩
  · exact .inl h2
  · have ha : A = some ⟨g, 0, none⟩ := by simp only [Value.slice.injEq] at a; exact a.1
    exact .inr ⟨g, cap, cur, a, b, by rw [hk g ha]; exact hh, r⟩
theorem OK.below (h : OK e k f w base A c l) (hb : Below B w w') (hB : w.heap.size ≤ B) : OK e k f w' base A c l :=
  h.kept fun g hg => hb.block g (by subst hg; have := h.lt; omega)
theorem OK.alloc (h : OK e k f w base A c l) (o : Obj) : OK e k f (w.alloc o) base A c l := World.ownsRow.alloc h o
theorem OK.drewN (h : OK e k f w base A c l) (q : Nat) : OK e k f (w.drewN q) base A c l := h
theorem len_flat (hf : ∀ x : α, (f x).length = k) : ∀ l : List α, (l.flatMap f).length = l.length * k
  | [] => by simp
  | x :: xs => by rw [List.flatMap_cons, List.length_append, hf, len_flat hf xs, List.length_cons, Nat.add_mul]; omega
theorem flat_get (hf : ∀ x : α, (f x).length = k) : ∀ (l : List α) (i : Nat) (x : α), l[i]? = some x → ∀ j, j < k → (l.flatMap f)[i * k + j]? = (f x)[j]?
  | [], i, x, h, j, hj => by cases h
  | y :: ys, 0, x, h, j, hj => by
    obtain rfl : y = x := by simpa using h
    rw [List.flatMap_cons, Nat.zero_mul, Nat.zero_add, List.getElem?_append_left (by rw [hf]; exact hj)]
  | y :: ys, i + 1, x, h, j, hj => by
    rw [List.flatMap_cons, List.getElem?_append_right (by rw [hf]; exact Nat.le_trans (by rw [Nat.add_mul]; omega) (Nat.le_add_right _ _)), hf]
    rw [show (i + 1) * k + j - k = i * k + j by rw [Nat.add_mul]; omega]
    exact flat_get hf ys i x (by simpa using h) j hj
/-- the i-th element's cells -/
theorem OK.cells {g : Nat} (hf : ∀ x : α, (f x).length = k) (h : OK e k f w base (some ⟨g, 0, none⟩) c l) {i : Nat} {x : α} (hi : l[i]? = some x) : ∀ j u, (f x)[j]? = some u → w.cell? ⟨g, i * k + j, none⟩ = some u := by
  intro j u hj
  have hjk : j < k := by rw [← hf x]; exact (List.getElem?_eq_some_iff.1 hj).1
  have hil : i < l.length := (List.getElem?_eq_some_iff.1 hi).1
  have hlt : i * k + j < l.length * k := by
    have : (i + 1) * k ≤ l.length * k := Nat.mul_le_mul_right k hil
    rw [Nat.add_mul] at this; omega
  rw [World.ownsRow.cellAt h _ hlt, flat_get hf l i x hi j hjk, hj]
end
/-- append(v, x): one element behind a row of the call's own (nil too) -/
theorem wp_app1 {P : Program} (w : World) {ops : Array Oper} {rest : List Oper} {o : Oper} {a : Act} {Q : Exit → Act → World → Prop}
    (T e : TypeId) {α : Type} (k : Nat) (f : α → List Value) (z : Value) (by_ : Nat) (hu : P.underlying T = some (.slice e)) (hi : (P.info? e).map (fun i => (i.zero, i.size, i.bytes)) = some (some z, k, by_)) (hz : z.cells.size = k) (hk0 : 0 < k)
    (hf : ∀ x : α, (f x).length = k) (h1 : ∀ (x : α), ∀ u ∈ f x, u.oneCell' = true)
    (hg : o.guard = none) (s x : Operand) (hop : o.op = Op.call { callee := Callee.builtin Builtin.append, args := #[s, x], argTypes := #[T, T] })
    (base : Nat) (A : Option Addr) (c n : Nat) (l : List α) (hs : a.eval s = .slice A n c) (hn : n = l.length) (hown : OK e k f w base A c l)
    (b d : Nat) (r : α) (hx : a.eval x = .slice (some ⟨b, 0, none⟩) 1 d) (hr : ∀ j u, (f r)[j]? = some u → w.cell? ⟨b, j, none⟩ = some u)
    (hlen : l.length + 1 ≤ 35184372088832) (hby : (l.length + 1) * by_ ≤ 140737488355328) (hbase : base ≤ w.heap.size)
    (hK : ∀ A' c' w', OK e k f w' base A' c' (l ++ [r]) → w.grownBy w' (Value.slice A n c).ownBlock → wpList P ops Q rest (a.put o.dst (.slice A' (l.length + 1) c')) w') :
    wpList P ops Q (o :: rest) a w := by
  obtain ⟨i, hi, h0, hi1, h2⟩ := info_parts hi
  subst hn
  refine wpList_plain hg fun K hK' => ?_
  obtain ⟨v', w', hrun, q1, q2, _, q4⟩ := run_append_own_at (P := P) w base T o.type e i z k by_ hu hi h0 hi1 h2 hz hk0 (.slice A l.length c) l.length (l.flatMap f) hown ⟨b, 0, none⟩ 1 d (f r) (by rw [hf, Nat.one_mul])
    (fun j u hj => by rw [Addr.add_lit, Nat.zero_add]; exact hr j u hj) (h1 r) (by unfold maxLen; omega) hby hbase
  have e1 : l.flatMap f ++ f r = (l ++ [r]).flatMap f := by simp
  have e2 : (l ++ [r]).length = l.length + 1 := by simp
  rw [e1] at q1
  unfold Oper.wp execOp
  simp only [hop, resolve, invoke, builtin, Sem.run_bind, Sem.run_pure, Result.andThen_ok, List.map_toArray, List.map_cons, List.map_nil, hs, hx, hrun]
  rcases q1.2 with ⟨rfl, hz⟩ | ⟨g, cap, cur, rfl, a1⟩
  · omega
  · exact hK' _ _ (hK (some ⟨g, 0, none⟩) cap w' (by unfold OK; rw [e2]; exact q1) q2)
end Go.Proofs.Ytabcnpcfknlmlaa
namespace Go.Proofs.Ytabcnpcfknlmlaa
open Go.RowKit

/-- append(v, x), and where the row lies then -/
theorem wp_app1o {P : Program} (w : World) {ops : Array Oper} {rest : List Oper} {o : Oper} {a : Act} {Q : Exit → Act → World → Prop}
    (T e : TypeId) {α : Type} (k : Nat) (f : α → List Value) (z : Value) (by_ : Nat) (hu : P.underlying T = some (.slice e)) (hi : (P.info? e).map (fun i => (i.zero, i.size, i.bytes)) = some (some z, k, by_)) (hz : z.cells.size = k) (hk0 : 0 < k)
    (hf : ∀ x : α, (f x).length = k) (h1 : ∀ (x : α), ∀ u ∈ f x, u.oneCell' = true)
    (hg : o.guard = none) (s x : Operand) (hop : o.op = Op.call { callee := Callee.builtin Builtin.append, args := #[s, x], argTypes := #[T, T] })
    (base : Nat) (A : Option Addr) (c n : Nat) (l : List α) (hs : a.eval s = .slice A n c) (hn : n = l.length) (hown : OK e k f w base A c l)
    (b d : Nat) (r : α) (hx : a.eval x = .slice (some ⟨b, 0, none⟩) 1 d) (hr : ∀ j u, (f r)[j]? = some u → w.cell? ⟨b, j, none⟩ = some u)
    (hlen : l.length + 1 ≤ 35184372088832) (hby : (l.length + 1) * by_ ≤ 140737488355328) (hbase : base ≤ w.heap.size)
    (hK : ∀ A' c' w', OK e k f w' base A' c' (l ++ [r]) → w.grownBy w' (Value.slice A n c).ownBlock → (A' = A ∨ A' = some ⟨w.heap.size, 0, none⟩) → wpList P ops Q rest (a.put o.dst (.slice A' (l.length + 1) c')) w') :
    wpList P ops Q (o :: rest) a w := by
  obtain ⟨i, hi, h0, hi1, h2⟩ := info_parts hi
  subst hn
  refine wpList_plain hg fun K hK' => ?_
  obtain ⟨v', w', hrun, q1, q2, _, q4⟩ := run_append_own_at (P := P) w base T o.type e i z k by_ hu hi h0 hi1 h2 hz hk0 (.slice A l.length c) l.length (l.flatMap f) hown ⟨b, 0, none⟩ 1 d (f r) (by rw [hf, Nat.one_mul])
    (fun j u hj => by rw [Addr.add_lit, Nat.zero_add]; exact hr j u hj) (h1 r) (by unfold maxLen; omega) hby hbase
  have e1 : l.flatMap f ++ f r = (l ++ [r]).flatMap f := by simp
  have e2 : (l ++ [r]).length = l.length + 1 := by simp
  rw [e1] at q1
  unfold Oper.wp execOp
  simp only [hop, resolve, invoke, builtin, Sem.run_bind, Sem.run_pure, Result.andThen_ok, List.map_toArray, List.map_cons, List.map_nil, hs, hx, hrun]
  rcases q1.2 with ⟨rfl, hz⟩ | ⟨g, cap, cur, rfl, a1⟩
  · omega
  · refine hK' _ _ (hK (some ⟨g, 0, none⟩) cap w' (by unfold OK; rw [e2]; exact q1) q2 ?_)
    rcases q4 with q4 | q4
    · refine .inl ?_
      rcases hown.form with ⟨rfl, _⟩ | ⟨g', rfl, _⟩
      · simp [Value.ownBlock] at q4
      · simp [Value.ownBlock] at q4
        rw [q4]
    · refine .inr ?_
      simp [Value.ownBlock] at q4
      rw [q4]
/-- a struct's cells -/
abbrev CK (k : Nat) := { cs : List Value // cs.length = k ∧ ∀ u ∈ cs, u.oneCell' = true }
section
variable {β : Type} {e : TypeId} {k : Nat} {E : World → (Nat → Prop) → List Value → β → Prop} {w w' : World} {base B : Nat} {A A' : Option Addr} {c c' : Nat} {xs : List β} {x : β}
/-- what a struct says stands as long as its parts' blocks do -/
def StepsE (E : World → (Nat → Prop) → List Value → β → Prop) : Prop := ∀ (w w' : World) (P P' : Nat → Prop) (cs : List Value) (x : β), (∀ b, P b → w'.heap[b]? = w.heap[b]?) → (∀ b, P b → P' b) → E w P cs x → E w' P' cs x
/-- a row of the call's own: the structs xs, their parts in other blocks -/
def RowE (e : TypeId) (k : Nat) (E : World → (Nat → Prop) → List Value → β → Prop) (w : World) (base : Nat) (A : Option Addr) (c : Nat) (xs : List β) : Prop :=
  ∃ ls : List (CK k), OK e k Subtype.val w base A c ls ∧ ls.length = xs.length ∧ ∀ (i : Nat) (x : β), xs[i]? = some x → ∃ cs : CK k, ls[i]? = some cs ∧ E w (fun b => b < w.heap.size ∧ A ≠ some ⟨b, 0, none⟩) cs.1 x
theorem RowE.nil (e : TypeId) (k : Nat) (E : World → (Nat → Prop) → List Value → β → Prop) (w : World) (base : Nat) : RowE e k E w base none 0 [] := ⟨[], OK.nil _ _ _ _ _, rfl, fun i x h => by simp at h⟩
theorem RowE.empty (e : TypeId) (k : Nat) (E : World → (Nat → Prop) → List Value → β → Prop) (w : World) : RowE e k E (w.alloc (.cells #[] e)) w.heap.size (some ⟨w.heap.size, 0, none⟩) 0 [] := ⟨[], OK.empty _ _ _ _, rfl, fun i x h => by simp at h⟩
theorem RowE.len (h : RowE e k E w base A c xs) : xs.length ≤ c := by
  obtain ⟨ls, h1, h2, _⟩ := h
  rw [← h2]; exact h1.lc
theorem RowE.base_le (h : RowE e k E w base A c xs) (hb : B ≤ base) : RowE e k E w B A c xs := by
  obtain ⟨ls, h1, h2⟩ := h
  exact ⟨ls, h1.base_le hb, h2⟩
theorem RowE.nx (hE : StepsE E) (h : RowE e k E w base A c xs) (hb : Below w.heap.size w w') : RowE e k E w' base A c xs := by
  obtain ⟨ls, h1, h2, h3⟩ := h
  refine ⟨ls, h1.below hb (Nat.le_refl _), h2, fun i x hx => ?_⟩
  obtain ⟨cs, e, h4⟩ := h3 i x hx
  exact ⟨cs, e, hE _ _ _ _ _ _ (fun b hq => hb.block b hq.1) (fun b hq => ⟨Nat.lt_of_lt_of_le hq.1 hb.size, hq.2⟩) h4⟩
theorem RowE.push (hE : StepsE E) {ls : List (CK k)} {r : CK k} {n : Nat} (O : OK e k Subtype.val w base A c ls) (hl : ls.length = xs.length)
    (hx : ∀ (i : Nat) (x : β), xs[i]? = some x → ∃ cs : CK k, ls[i]? = some cs ∧ E w (fun b => b < w.heap.size ∧ A ≠ some ⟨b, 0, none⟩) cs.1 x)
    (hr : E w (fun b => b < w.heap.size ∧ A ≠ some ⟨b, 0, none⟩) r.1 x) (O' : OK e k Subtype.val w' base A' c' (ls ++ [r])) (G : w.grownBy w' (Value.slice A n c).ownBlock) (H : A' = A ∨ A' = some ⟨w.heap.size, 0, none⟩) :
    RowE e k E w' base A' c' (xs ++ [x]) := by
  have k1 : ∀ b, (b < w.heap.size ∧ A ≠ some ⟨b, 0, none⟩) → w'.heap[b]? = w.heap[b]? := fun b hb => G.block b hb.1 (by
    rcases O.form with ⟨rfl, _⟩ | ⟨g, rfl, _⟩
    · simp [Value.ownBlock]
    · intro h
      simp only [Value.ownBlock, Option.some.injEq] at h
      exact hb.2 (by rw [h]))
  have k2 : ∀ b, (b < w.heap.size ∧ A ≠ some ⟨b, 0, none⟩) → (b < w'.heap.size ∧ A' ≠ some ⟨b, 0, none⟩) := fun b hb => ⟨Nat.lt_of_lt_of_le hb.1 G.size, fun h => by
    rcases H with H | H
    · exact hb.2 (H ▸ h)
    · rw [H] at h
      simp only [Option.some.injEq, Addr.mk.injEq, and_true] at h
      omega⟩
  refine ⟨ls ++ [r], O', by simp [hl], fun i y hy => ?_⟩
  by_cases hi : i < xs.length
  · rw [List.getElem?_append_left hi] at hy
    obtain ⟨cs, e, h4⟩ := hx i y hy
    exact ⟨cs, by rw [List.getElem?_append_left (by omega)]; exact e, hE _ _ _ _ _ _ k1 k2 h4⟩
  · have hi2 : i = xs.length := by
      have := (List.getElem?_eq_some_iff.1 hy).1
      rw [List.length_append, List.length_singleton] at this
      omega
    subst hi2
    rw [List.getElem?_append_right (Nat.le_refl _), Nat.sub_self] at hy
    obtain rfl : x = y := by simpa using hy
    exact ⟨r, by rw [List.getElem?_append_right (by omega), hl, Nat.sub_self]; rfl, hE _ _ _ _ _ _ k1 k2 hr⟩
theorem RowE.below {n : Nat} {ls : List (CK k)} (O : OK e k Subtype.val w base A c ls) (G : w.grownBy w' (Value.slice A n c).ownBlock) (hb : base ≤ w.heap.size) : Below base w w' :=
  (Below.refl _ _).grown G hb (by
    intro k hk
    rcases O.form with ⟨rfl, _⟩ | ⟨g, rfl, hb, _⟩
    · simp [Value.ownBlock] at hk
    · simp [Value.ownBlock] at hk; omega)
/-- a slice of structs, read -/
def RdE (k : Nat) (E : World → (Nat → Prop) → List Value → β → Prop) (w : World) (P : Nat → Prop) (A : Option Addr) (c : Nat) (xs : List β) : Prop :=
  xs.length ≤ c ∧ (0 < xs.length → ∃ b off, A = some ⟨b, off, none⟩ ∧ P b ∧ ∀ (i : Nat) (x : β), xs[i]? = some x → ∃ cs : CK k, (∀ j u, cs.1[j]? = some u → w.cell? ⟨b, off + i * k + j, none⟩ = some u) ∧ E w P cs.1 x)
theorem RdE.nil (k : Nat) (E : World → (Nat → Prop) → List Value → β → Prop) (w : World) (P : Nat → Prop) (A : Option Addr) (c : Nat) : RdE k E w P A c [] := ⟨Nat.zero_le _, fun h => by simp at h⟩
theorem RowE.rd (hE : StepsE E) (h : RowE e k E w base A c xs) : RdE k E w (fun b => b < w.heap.size) A c xs := by
  refine ⟨h.len, fun h0 => ?_⟩
  obtain ⟨ls, h1, h2, h3⟩ := h
  rcases h1.form with ⟨rfl, _, rfl⟩ | ⟨g, rfl, hb, hg, _⟩
  · rw [List.length_nil] at h2; omega
  · refine ⟨g, 0, rfl, hg, fun i x hx => ?_⟩
    obtain ⟨cs, e1, h4⟩ := h3 i x hx
    exact ⟨cs, fun j u hj => by rw [Nat.zero_add]; exact OK.cells (fun x : CK k => x.2.1) h1 e1 j u hj, hE _ _ _ _ _ _ (fun _ _ => rfl) (fun b hb => hb.1) h4⟩
theorem RdE.step {P P' : Nat → Prop} (hE : StepsE E) (h : RdE k E w P A c xs) (hb : ∀ b, P b → w'.heap[b]? = w.heap[b]?) (hP : ∀ b, P b → P' b) : RdE k E w' P' A c xs :=
  ⟨h.1, fun h0 => by
    obtain ⟨b, off, e, hPb, h1⟩ := h.2 h0
    refine ⟨b, off, e, hP b hPb, fun i x hx => ?_⟩
    obtain ⟨cs, h2, h3⟩ := h1 i x hx
    exact ⟨cs, fun j u hj => (World.cell?_of_block (w := w) (hb b hPb)).trans (h2 j u hj), hE _ _ _ _ _ _ hb hP h3⟩⟩
theorem RdE.nx {P : Nat → Prop} (hE : StepsE E) (h : RdE k E w P A c xs) (hP : ∀ b, P b → b < w.heap.size) (hb : Below w.heap.size w w') : RdE k E w' P A c xs := h.step hE (fun b hq => hb.block b (hP b hq)) (fun _ h => h)
theorem RdE.at_ {P : Nat → Prop} (h : RdE k E w P A c xs) {i : Nat} (hi : i < xs.length) : ∃ b off, A = some ⟨b, off, none⟩ ∧ P b ∧ ∃ cs : List Value, cs.length = k ∧ (∀ u ∈ cs, u.oneCell' = true) ∧ (∀ j u, cs[j]? = some u → w.cell? ⟨b, off + i * k + j, none⟩ = some u) ∧ E w P cs xs[i] := by
  obtain ⟨b, off, e, hPb, h1⟩ := h.2 (by omega)
  obtain ⟨cs, h2, h3⟩ := h1 i _ (List.getElem?_eq_getElem hi)
  exact ⟨b, off, e, hPb, cs.1, cs.2.1, cs.2.2, h2, h3⟩
end
end Go.Proofs.Ytabcnpcfknlmlaa
namespace Go.Proofs.Ytabcnpcfknlmlaa
open Go.RowKit

/-- a slice of words in a block of P -/
def WQ (w : World) (P : Nat → Prop) (A : Option Addr) (c : Nat) (l : List Nat) : Prop :=
  (l.length ≤ c ∧ l.length ≤ 35184372088832 ∧ (0 < l.length → ∃ b off, A = some ⟨b, off, none⟩ ∧ P b ∧ ∀ k x, l[k]? = some x → w.cell? ⟨b, off + k, none⟩ = some (fw x))) ∧ B32 l
section
variable {w w' : World} {P P' : Nat → Prop} {A : Option Addr} {c base : Nat} {l : List Nat}
theorem WQ.step (h : WQ w P A c l) (hb : ∀ b, P b → w'.heap[b]? = w.heap[b]?) (hP : ∀ b, P b → P' b) : WQ w' P' A c l :=
  ⟨⟨h.1.1, h.1.2.1, fun h0 => by
    obtain ⟨b, off, e, hp, hc⟩ := h.1.2.2 h0
    exact ⟨b, off, e, hP b hp, fun k x hk => (World.cell?_of_block (w := w) (hb b hp)).trans (hc k x hk)⟩⟩, h.2⟩
theorem WQ.rw {B : Nat} (h : WQ w P A c l) (hP : ∀ b, P b → b < B) : RW w B A c l :=
  ⟨⟨h.1.1, h.1.2.1, fun h0 => by
    obtain ⟨b, off, e, hp, hc⟩ := h.1.2.2 h0
    exact ⟨b, off, e, hP b hp, hc⟩⟩, h.2⟩
theorem OW.wq (h : OW w base A c l) (hP : ∀ b, base ≤ b → b < w.heap.size → P b) : WQ w P A c l := by
  have h1 := h.rw
  refine ⟨⟨h1.1.1, h1.1.2.1, fun h0 => ?_⟩, h.2⟩
  obtain ⟨b, off, e, _, hc⟩ := h1.1.2.2 h0
  subst e
  rcases h.form with ⟨e, _⟩ | ⟨g, e, h2, h3, _⟩
  · cases e
  · simp only [Option.some.injEq, Addr.mk.injEq, and_true] at e
    obtain ⟨rfl, rfl⟩ := e
    exact ⟨b, 0, rfl, hP b h2 h3, hc⟩
theorem RW.wq {B : Nat} (h : RW w B A c l) : WQ w (fun b => b < B) A c l := h
end
/-- a number's six cells -/
def NE (w : World) (P : Nat → Prop) (cs : List Value) (x : Rw × Rw) : Prop :=
  ∃ A1 c1 D1 d1 A2 c2 D2 d2, cs = [.bool x.1.s, .slice A1 x.1.a.length c1, .slice D1 x.1.b.length d1, .bool x.2.s, .slice A2 x.2.a.length c2, .slice D2 x.2.b.length d2] ∧
    WQ w P A1 c1 x.1.a ∧ WQ w P D1 d1 x.1.b ∧ WQ w P A2 c2 x.2.a ∧ WQ w P D2 d2 x.2.b
theorem NE.steps : StepsE NE := by
  rintro w w' P P' cs x hb hP ⟨A1, c1, D1, d1, A2, c2, D2, d2, e, h1, h2, h3, h4⟩
  exact ⟨A1, c1, D1, d1, A2, c2, D2, d2, e, h1.step hb hP, h2.step hb hP, h3.step hb hP, h4.step hb hP⟩
theorem NE.vn {w : World} {P : Nat → Prop} {B : Nat} {cs : List Value} {x : Rw × Rw} (h : NE w P cs x) (hP : ∀ b, P b → b < B) : VN w B (.agg cs.toArray) x.1 x.2 := by
  obtain ⟨A1, c1, D1, d1, A2, c2, D2, d2, rfl, h1, h2, h3, h4⟩ := h
  exact ⟨A1, c1, D1, d1, A2, c2, D2, d2, rfl, h1.rw hP, h2.rw hP, h3.rw hP, h4.rw hP⟩
theorem VN.ne {w : World} {B : Nat} {v : Value} {r i : Rw} (h : VN w B v r i) : ∃ cs : List Value, v = .agg cs.toArray ∧ cs.length = 6 ∧ (∀ u ∈ cs, u.oneCell' = true) ∧ NE w (fun b => b < B) cs (r, i) := by
  obtain ⟨A1, c1, D1, d1, A2, c2, D2, d2, rfl, h1, h2, h3, h4⟩ := h
  exact ⟨_, rfl, rfl, by simp [Value.oneCell'], A1, c1, D1, d1, A2, c2, D2, d2, rfl, h1.wq, h2.wq, h3.wq, h4.wq⟩
abbrev NRow (w : World) (base : Nat) (A : Option Addr) (c : Nat) (xs : List (Rw × Rw)) : Prop := RowE 27 6 NE w base A c xs
abbrev NRd (w : World) (P : Nat → Prop) (A : Option Addr) (c : Nat) (xs : List (Rw × Rw)) : Prop := RdE 6 NE w P A c xs
theorem infoNf : (Try.prog.info? 27).map (fun i => (i.zero, i.size, i.bytes)) = some (some (.agg #[.bool false, .slice none 0 0, .slice none 0 0, .bool false, .slice none 0 0, .slice none 0 0]), 6, 112) := by kernel_rfl
/-- append of one number -/
theorem wp_appN (w : World) {ops : Array Oper} {rest : List Oper} {o : Oper} {a : Act} {Q : Exit → Act → World → Prop}
    (hg : o.guard = none) (s x : Operand) (hop : o.op = Op.call { callee := Callee.builtin Builtin.append, args := #[s, x], argTypes := #[39, 39] })
    (base : Nat) (A : Option Addr) (c n : Nat) (l : List (CK 6)) (hs : a.eval s = .slice A n c) (hn : n = l.length) (hown : OK 27 6 Subtype.val w base A c l)
    (b d : Nat) (r : CK 6) (hx : a.eval x = .slice (some ⟨b, 0, none⟩) 1 d) (hr : ∀ j u, r.1[j]? = some u → w.cell? ⟨b, j, none⟩ = some u)
    (hlen : l.length ≤ 2000000) (hbase : base ≤ w.heap.size)
    (hK : ∀ A' c' w', OK 27 6 Subtype.val w' base A' c' (l ++ [r]) → w.grownBy w' (Value.slice A n c).ownBlock → (A' = A ∨ A' = some ⟨w.heap.size, 0, none⟩) → wpList Try.prog ops Q rest (a.put o.dst (.slice A' (l.length + 1) c')) w') :
    wpList Try.prog ops Q (o :: rest) a w :=
  wp_app1o w 39 27 6 Subtype.val (.agg #[.bool false, .slice none 0 0, .slice none 0 0, .bool false, .slice none 0 0, .slice none 0 0]) 112 Try.underlying39 infoNf rfl (by decide) (fun x => x.2.1)
    (fun x u hu => x.2.2 u hu) hg s x hop base A c n l hs hn hown b d r hx hr (by omega) (by omega) hbase hK
end Go.Proofs.Ytabcnpcfknlmlaa
