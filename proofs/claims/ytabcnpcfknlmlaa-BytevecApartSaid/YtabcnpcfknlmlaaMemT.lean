/- (bounds as wide as any slice) What a slice in memory reads as, and what a call's own row holds; laws on make and append. Over any program. -/
import Derived.Test.YtabcnpcfknlmlaaMem
import Derived.WalkKit
import Derived.Lib.Hide
import Derived.BigQuiet
import Derived.Deep.QuietTactic
import Derived.Deep.RegionWith
import Derived.Deep.Draws
import Derived.Maps.AppendAt
namespace Go.Proofs.Ytabcnpcfknlmlaa
open Go.RowKit

/-- a slice (its address, its capacity) reads as the list l, and lies below block B; f: an element's cell -/
def RM {α : Type} (f : α → Value) (w : World) (B : Nat) (A : Option Addr) (c : Nat) (l : List α) : Prop :=
  l.length ≤ c ∧ l.length ≤ 140737488351232 ∧
  (0 < l.length → ∃ b off, A = some ⟨b, off, none⟩ ∧ b < B ∧ ∀ k x, l[k]? = some x → w.cell? ⟨b, off + k, none⟩ = some (f x))

/-- a slice of the call's own (blocks from base on) that holds the list l; e: the element's type -/
def OM (e : TypeId) {α : Type} (f : α → Value) (w : World) (base : Nat) (A : Option Addr) (c : Nat) (l : List α) : Prop :=
  w.ownsRow base e 1 (.slice A l.length c) l.length (l.map f) ∧ l.length ≤ 140737488351232

section
variable {α : Type} {f : α → Value} {e : TypeId} {w w' : World} {B B' base : Nat} {A : Option Addr} {c : Nat} {l : List α}
theorem RM.lc (h : RM f w B A c l) : l.length ≤ c := h.1
theorem RM.big (h : RM f w B A c l) : l.length ≤ 140737488351232 := h.2.1
theorem RM.nil (f : α → Value) (w : World) (B : Nat) (A : Option Addr) (c : Nat) : RM f w B A c [] := ⟨by simp, by simp, fun h => by simp at h⟩
theorem RM.below (h : RM f w B A c l) (hb : Below B w w') : RM f w' B A c l :=
  ⟨h.1, h.2.1, fun hn => by
    obtain ⟨b, off, e, hlt, hc⟩ := h.2.2 hn
    exact ⟨b, off, e, hlt, fun k x hk => (hb.cell (p := ⟨b, off + k, none⟩) hlt).trans (hc k x hk)⟩⟩
theorem RM.more (h : RM f w B A c l) (hB : B ≤ B') : RM f w B' A c l :=
  ⟨h.1, h.2.1, fun hn => by
    obtain ⟨b, off, e, hlt, hc⟩ := h.2.2 hn
    exact ⟨b, off, e, by omega, hc⟩⟩
theorem RM.step (h : RM f w B A c l) (hb : Below B w w') (hB : B ≤ B') : RM f w' B' A c l := (h.below hb).more hB
theorem RM.drewN (h : RM f w B A c l) (k : Nat) : RM f (w.drewN k) B A c l := h
theorem RM.take (h : RM f w B A c l) (k : Nat) : RM f w B A c (l.take k) := by
  refine ⟨by have := h.1; rw [List.length_take]; omega, by have := h.2.1; rw [List.length_take]; omega, fun hn => ?_⟩
  rw [List.length_take] at hn
  obtain ⟨b, off, e, hlt, hc⟩ := h.2.2 (by omega)
  refine ⟨b, off, e, hlt, fun j x hj => ?_⟩
  rw [List.getElem?_take] at hj
  split at hj
  · exact hc j x hj
  · cases hj
theorem RM.at_ (h : RM f w B A c l) (hn : 0 < l.length) : ∃ b off, A = some ⟨b, off, none⟩ ∧ b < B ∧ ∀ k x, l[k]? = some x → w.cell? ⟨b, off + k, none⟩ = some (f x) := h.2.2 hn

theorem OM.big (h : OM e f w base A c l) : l.length ≤ 140737488351232 := h.2
theorem OM.nil (e : TypeId) (f : α → Value) (w : World) (base : Nat) : OM e f w base none 0 ([] : List α) := ⟨by simpa using World.ownsRow_nil w base e 1, by simp⟩
theorem OM.form (h : OM e f w base A c l) : (A = none ∧ c = 0 ∧ l = []) ∨ ∃ g, A = some ⟨g, 0, none⟩ ∧ base ≤ g ∧ g < w.heap.size ∧ l.length ≤ c := by
  rcases h.1.2 with ⟨e, h0⟩ | ⟨g, cap, cur, e, hb, hh, hn, _⟩
  · simp only [Value.slice.injEq] at e
    exact .inl ⟨e.1, e.2.2, List.eq_nil_of_length_eq_zero h0⟩
  · simp only [Value.slice.injEq] at e
    obtain ⟨e1, e2, e3⟩ := e
    subst e3
    exact .inr ⟨g, e1, hb, (Array.getElem?_eq_some_iff.1 hh).1, hn⟩
theorem OM.lc (h : OM e f w base A c l) : l.length ≤ c := by
  rcases h.form with ⟨_, _, rfl⟩ | ⟨g, _, _, _, h⟩
  · simp
  · exact h
theorem OM.cell {g : Nat} (h : OM e f w base (some ⟨g, 0, none⟩) c l) {k : Nat} {x : α} (hk : l[k]? = some x) : w.cell? ⟨g, k, none⟩ = some (f x) := by
  have hlt : k < l.length := (List.getElem?_eq_some_iff.1 hk).1
  rw [h.1.cellAt k (by omega), List.getElem?_map, hk]; rfl
theorem OM.rl (h : OM e f w base A c l) : RM f w w.heap.size A c l := by
  refine ⟨h.lc, h.big, fun hn => ?_⟩
  rcases h.form with ⟨_, _, rfl⟩ | ⟨g, rfl, hb, hlt, _⟩
  · simp at hn
  · refine ⟨g, 0, rfl, hlt, fun k x hk => ?_⟩
    rw [Nat.zero_add]
    exact h.cell hk
theorem OM.base_le (h : OM e f w base A c l) (hb : B ≤ base) : OM e f w B A c l := by
  refine ⟨⟨h.1.1, ?_⟩, h.2⟩
  rcases h.1.2 with h2 | ⟨g, cap, cur, a, b, r⟩
  · exact .inl h2
  · exact .inr ⟨g, cap, cur, a, by omega, r⟩
theorem OM.kept (h : OM e f w base A c l) (hk : ∀ g, A = some ⟨g, 0, none⟩ → w'.heap[g]? = w.heap[g]?) : OM e f w' base A c l := by
  refine ⟨⟨h.1.1, ?_⟩, h.2⟩
  rcases h.1.2 with h2 | ⟨g, cap, cur, a, b, hh, r⟩
  · exact .inl h2
  · have ha : A = some ⟨g, 0, none⟩ := by simp only [Value.slice.injEq] at a; exact a.1
    exact .inr ⟨g, cap, cur, a, b, by rw [hk g ha]; exact hh, r⟩
theorem OM.lt {g : Nat} (h : OM e f w base (some ⟨g, 0, none⟩) c l) : base ≤ g ∧ g < w.heap.size := by
  rcases h.form with ⟨e, _⟩ | ⟨g', e, h1, h2, _⟩
  · cases e
  · simp only [Option.some.injEq, Addr.mk.injEq, and_true] at e
    subst e
    exact ⟨h1, h2⟩
theorem OM.below (h : OM e f w base A c l) (hb : Below B w w') (hB : w.heap.size ≤ B) : OM e f w' base A c l :=
  h.kept fun g hg => hb.block g (by subst hg; have := h.lt; omega)
theorem OM.grown {row : Option Nat} (h : OM e f w base A c l) (hg : w.grownBy w' row) (hne : ∀ g, A = some ⟨g, 0, none⟩ → row ≠ some g) : OM e f w' base A c l :=
  h.kept fun g ha => hg.block g (by subst ha; exact h.lt.2) (fun he => hne g ha he.symm)
theorem OM.alloc (h : OM e f w base A c l) (o : Obj) : OM e f (w.alloc o) base A c l := ⟨h.1.alloc o, h.2⟩
theorem OM.drew (h : OM e f w base A c l) : OM e f w.drew base A c l := h
theorem OM.drewN (h : OM e f w base A c l) (k : Nat) : OM e f (w.drewN k) base A c l := h
theorem OM.take (h : OM e f w base A c l) (k : Nat) : OM e f w base A c (l.take k) := by
  have hl : (l.take k).length = min k l.length := List.length_take
  refine ⟨⟨by rw [List.length_map]; omega, ?_⟩, by have := h.big; omega⟩
  rcases h.1.2 with ⟨e, h0⟩ | ⟨g, cap, cur, a, b, hh, hn, hcm, hcs, ht⟩
  · simp only [Value.slice.injEq] at e
    left
    refine ⟨?_, by omega⟩
    rw [e.1, e.2.2]; congr 1; omega
  · simp only [Value.slice.injEq] at a
    refine .inr ⟨g, cap, cur, by rw [a.1, a.2.2], b, hh, by omega, hcm, hcs, ?_⟩
    rw [List.map_take, ← ht, List.take_take]
    congr 1
    omega
theorem OM.frozen {g : Nat} (h : OM e f w base (some ⟨g, 0, none⟩) c l) (k : Nat) : w.frozen? ⟨g, k, none⟩ = false := h.1.frozenAt k
theorem OM.set {g : Nat} (h : OM e f w base (some ⟨g, 0, none⟩) c l) (k : Nat) (x : α) :
    OM e f (w.setCell ⟨g, k, none⟩ (f x)) base (some ⟨g, 0, none⟩) c (l.set k x) := by
  have h1 := (h.1.stored k (f x)).1
  refine ⟨?_, by rw [List.length_set]; exact h.big⟩
  rw [List.map_set, List.length_set]
  exact h1
theorem OM.far (h : OM e f w base A c l) {p : Addr} (hp : ∀ g, A = some ⟨g, 0, none⟩ → g ≠ p.block) (u : Value) : OM e f (w.setCell p u) base A c l :=
  h.kept fun g hg => Below.heap_setCell _ _ _ _ (hp g hg)
end

theorem bdNT {B : Nat} {a w : World} (h : Below B a w) (n : Nat) : Below B a (w.drewN n) := h.trans ⟨rfl, rfl, rfl, Nat.le_refl _, fun _ _ => rfl⟩
theorem quiet_leftT {P : Program} {f : FuncId} {args : Array Value} {w : World} {n : Nat} {v : Value}
    (h : Calls P f args (w.drewN n) fun e w' => e = .returned v ∧ w.drewN n = w') : Calls P f args (w.drewN n) fun e w'' => e = .returned v ∧ ∃ m, w'' = w.drewN m :=
  h.mono fun _ _ ⟨he, hm⟩ => ⟨he, n, hm.symm⟩
theorem quiet_someT {P : Program} {f : FuncId} {args : Array Value} {w : World} {n : Nat} {v : Value}
    (h : Calls P f args (w.drewN n) fun e w' => e = .returned v ∧ ∃ m, w' = (w.drewN n).drewN m) : Calls P f args (w.drewN n) fun e w'' => e = .returned v ∧ ∃ m, w'' = w.drewN m :=
  h.mono fun _ _ ⟨he, m, hm⟩ => ⟨he, n + m, by rw [hm, World.drewN_drewN]⟩

/-- make([]T, n), an element's cells one -/
theorem wp_makeT {P : Program} (w : World) {ops : Array Oper} {rest : List Oper} {o : Oper} {a : Act} {Q : Exit → Act → World → Prop}
    (T e : TypeId) {α : Type} (f : α → Value) (x0 : α) (by_ : Nat) (hu : P.underlying T = some (.slice e)) (hi : (P.info? e).map (fun i => (i.zero, i.size, i.bytes)) = some (some (f x0), 1, by_)) (h1 : (f x0).cells = #[f x0])
    (hg : o.guard = none) (x c : Operand) (hop : o.op = Op.makeSlice T x c)
    (kl kc : IntKind) (L C : Int) (n : Nat) (hl : a.eval x = .int kl L) (hc : a.eval c = .int kc C) (hL : L = (n : Int)) (hC : C = (n : Int)) (hn : n ≤ 140737488351232) (hby : by_ * n ≤ 281474976710656)
    (hK : ∀ w', OM e f w' w.heap.size (some ⟨w.heap.size, 0, none⟩) n (List.replicate n x0) → w.grownBy w' none → w.heap.size + 1 ≤ w'.heap.size → wpList P ops Q rest (a.put o.dst (.slice (some ⟨w.heap.size, 0, none⟩) n n)) w') :
    wpList P ops Q (o :: rest) a w := by
  obtain ⟨i, hi, h0, hi1, h2⟩ := info_parts hi
  refine wpList_make_full w hg x c T hop w.heap.size e i (f x0) 1 hu hi h0 hi1 kl kc L C n hl hc hL hC (by rw [h2]; exact hby) (by unfold maxLen; omega) (Nat.le_refl _) ?_
  intro w' hown hgr
  have e2 : (madeCells (f x0).cells (n * 1)).toList = (List.replicate n x0).map f := by
    rw [h1, Nat.mul_one]
    simp only [madeCells]
    apply List.ext_getElem
    · simp
    · intro k hk1 hk2
      simp [Nat.mod_one]
  rw [e2] at hown
  have hO : OM e f w' w.heap.size (some ⟨w.heap.size, 0, none⟩) n (List.replicate n x0) := ⟨by simpa using hown, by simpa using hn⟩
  exact hK w' hO hgr hO.lt.2

theorem run_append_nilT {P : Program} (w : World) {base : Nat} {T ty e : TypeId} {i : TypeInfo} (ht : P.underlying T = some (.slice e)) (hi : P.info? e = some i)
    {v : Value} {n : Nat} {xs : List Value} (hown : w.ownsRow base e 1 v n xs) (ad : Option Addr) (d : Nat) : (Builtin.append_ #[T, T] ty #[v, .slice ad 0 d]).run P w = .ok v w := by
  cases ad with
  | none =>
    rcases hown.2 with ⟨rfl, rfl⟩ | ⟨g, cap, cur, rfl, _, _, hnc, _⟩
    · simp [Builtin.append_, run_underlying ht, sizeOf, typeInfo, hi, Builtin.lenOf, Builtin.firstCells]
    · simp [Builtin.append_, run_underlying ht, sizeOf, typeInfo, hi, Builtin.lenOf, Builtin.firstCells, hnc, storeCells]
  | some ad =>
    rcases hown.2 with ⟨rfl, rfl⟩ | ⟨g, cap, cur, rfl, _, _, hnc, _⟩
    · simp [Builtin.append_, run_underlying ht, sizeOf, typeInfo, hi, Builtin.lenOf, Builtin.firstCells, loadCells, loadCellsFrom]
    · simp [Builtin.append_, run_underlying ht, sizeOf, typeInfo, hi, Builtin.lenOf, Builtin.firstCells, hnc, storeCells, loadCells, loadCellsFrom]

/-- append(v, r...): behind a row of the call's own (nil too) -/
theorem wp_appT {P : Program} (w : World) {ops : Array Oper} {rest : List Oper} {o : Oper} {a : Act} {Q : Exit → Act → World → Prop}
    (T e : TypeId) {α : Type} (f : α → Value) (x0 : α) (by_ : Nat) (hu : P.underlying T = some (.slice e)) (hi : (P.info? e).map (fun i => (i.zero, i.size, i.bytes)) = some (some (f x0), 1, by_)) (h1 : ∀ x, (f x).cells = #[f x] ∧ (f x).oneCell' = true)
    (hg : o.guard = none) (s x : Operand) (hop : o.op = Op.call { callee := Callee.builtin Builtin.append, args := #[s, x], argTypes := #[T, T] })
    (base : Nat) (A : Option Addr) (c n : Nat) (l : List α) (hs : a.eval s = .slice A n c) (hn : n = l.length) (hown : OM e f w base A c l)
    (D : Option Addr) (d m : Nat) (r : List α) (hx : a.eval x = .slice D m d) (hm : m = r.length) (Br : Nat) (hr : RM f w Br D d r)
    (hlen : l.length + r.length ≤ 140737488351232) (hby : (l.length + r.length) * by_ ≤ 140737488355328) (hbase : base ≤ w.heap.size)
    (hK : ∀ A' c' w', OM e f w' base A' c' (l ++ r) → w.grownBy w' (Value.slice A n c).ownBlock → (∀ g, A' = some ⟨g, 0, none⟩ → g < w.heap.size → A = some ⟨g, 0, none⟩) →
      wpList P ops Q rest (a.put o.dst (.slice A' (l ++ r).length c')) w') :
    wpList P ops Q (o :: rest) a w := by
  obtain ⟨i, hi, h0, hi1, h2⟩ := info_parts hi
  subst hn hm
  refine wpList_plain hg fun K hK' => ?_
  have key : ∃ v' w', (Builtin.append_ #[T, T] o.type #[.slice A l.length c, .slice D r.length d]).run P w = .ok v' w' ∧ w'.ownsRow base e 1 v' (l.length + r.length) (l.map f ++ r.map f) ∧ w.grownBy w' (Value.slice A l.length c).ownBlock ∧ (v'.ownBlock = (Value.slice A l.length c).ownBlock ∨ v'.ownBlock = some w.heap.size) := by
    by_cases hr0 : r.length = 0
    · have hrn : r = [] := List.eq_nil_of_length_eq_zero hr0
      subst hrn
      exact ⟨_, w, run_append_nilT w hu hi hown.1 D d, by simpa using hown.1, World.grownBy.refl w _, .inl rfl⟩
    · obtain ⟨b, off, rfl, _, hc⟩ := hr.2.2 (by omega)
      obtain ⟨v', w', hrun, q1, q2, _, q4⟩ := run_append_own_at (P := P) w base T o.type e i (f x0) 1 by_ hu hi h0 hi1 h2 (by rw [(h1 x0).1]; rfl) (by omega) (.slice A l.length c) l.length (l.map f) hown.1 ⟨b, off, none⟩ r.length d (r.map f) (by simp)
        (by
          intro j u hj
          rw [List.getElem?_map] at hj
          obtain ⟨y, hy, rfl⟩ := Option.map_eq_some_iff.1 hj
          rw [Addr.add_lit]
          exact hc j y hy)
        (by
          intro u hu
          obtain ⟨y, _, rfl⟩ := List.mem_map.1 hu
          exact (h1 y).2)
        (by unfold maxLen; omega) hby hbase
      exact ⟨v', w', hrun, q1, q2, q4⟩
  obtain ⟨v', w', hrun, q1, q2, q4⟩ := key
  unfold Oper.wp execOp
  simp only [hop, resolve, invoke, builtin, Sem.run_bind, Sem.run_pure, Result.andThen_ok, List.map_toArray, List.map_cons, List.map_nil, hs, hx, hrun]
  have hlen2 : (l ++ r).length = l.length + r.length := List.length_append
  rcases q1.2 with ⟨rfl, hz⟩ | ⟨g, cap, cur, rfl, a1, a2, a3, a4, a5, a6⟩
  · have hO : OM e f w' base none 0 (l ++ r) := ⟨by rw [hlen2, List.map_append, hz]; rw [hz] at q1; exact q1, by omega⟩
    have := hK none 0 w' hO q2 (by intro g hg; cases hg)
    rw [hlen2, hz] at this
    exact hK' _ _ this
  · have hO : OM e f w' base (some ⟨g, 0, none⟩) cap (l ++ r) := ⟨by rw [hlen2, List.map_append]; exact q1, by omega⟩
    have := hK (some ⟨g, 0, none⟩) cap w' hO q2 (by
      intro g' hg' hlt
      simp only [Option.some.injEq, Addr.mk.injEq, and_true] at hg'
      subst hg'
      rcases q4 with q | q
      · rcases hown.form with ⟨rfl, _⟩ | ⟨g2, rfl, _⟩
        · simp [Value.ownBlock] at q
        · simp [Value.ownBlock] at q; subst q; rfl
      · simp [Value.ownBlock] at q; omega)
    rw [hlen2] at this
    exact hK' _ _ this
end Go.Proofs.Ytabcnpcfknlmlaa
