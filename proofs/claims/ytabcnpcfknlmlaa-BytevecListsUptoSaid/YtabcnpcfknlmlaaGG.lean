/- Merged texts: MemT, BytesT, PlainV, PlainX, ExA, ExT, ExO. -/
import Derived.Test.YtabcnpcfknlmlaaGB
import Derived.WalkKit
import Derived.Lib.Hide
import Derived.BigQuiet
import Derived.Deep.QuietTactic
import Derived.Deep.RegionWith
import Derived.Deep.Draws
import Derived.Maps.AppendAt
import Derived.Test.YtabcnpcfknlmlaaProg
import Derived.Test.YtabcnpcfknlmlaaGA
import Derived.Test.YtabcnpcfknlmlaaGF
namespace Go.Proofs.Ytabcnpcfknlmlaa
open Go.RowKit

/-- a slice (its address, its capacity) reads as the list l, and lies below block B; f: an element's cell -/
def RM {α : Type} (f : α → Value) (w : World) (B : Nat) (A : Option Addr) (c : Nat) (l : List α) : Prop :=
  l.length ≤ c ∧ l.length ≤ 140737488351232 ∧
  (0 < l.length → ∃ b off, A = some ⟨b, off, none⟩ ∧ b < B ∧ ∀ k x, l[k]? = some x → w.cell? ⟨b, off + k, none⟩ = some (f x))

/-- a slice of the call's own (blocks from base on) that holds the list l; e: the element's type -/
def OM (e : TypeId) {α : Type} (f : α → Value) (w : World) (base : Nat) (A : Option Addr) (c : Nat) (l : List α) : Prop :=
  w.ownsRow base e 1 (.slice A l.length c) l.length (l.map f) ∧ l.length ≤ 140737488351232

section
variable {α : Type} {f : α → Value} {e : TypeId} {w w' : World} {B B' base : Nat} {A : Option Addr} {c : Nat} {l : List α}
theorem RM.lc (h : RM f w B A c l) : l.length ≤ c := h.1
theorem RM.big (h : RM f w B A c l) : l.length ≤ 140737488351232 := h.2.1
theorem RM.nil (f : α → Value) (w : World) (B : Nat) (A : Option Addr) (c : Nat) : RM f w B A c [] := ⟨by simp, by simp, fun h => by simp at h⟩
theorem RM.below (h : RM f w B A c l) (hb : Below B w w') : RM f w' B A c l :=
  ⟨h.1, h.2.1, fun hn => by
    obtain ⟨b, off, e, hlt, hc⟩ := h.2.2 hn
    exact ⟨b, off, e, hlt, fun k x hk => (hb.cell (p := ⟨b, off + k, none⟩) hlt).trans (hc k x hk)⟩⟩
theorem RM.more (h : RM f w B A c l) (hB : B ≤ B') : RM f w B' A c l :=
  ⟨h.1, h.2.1, fun hn => by
    obtain ⟨b, off, e, hlt, hc⟩ := h.2.2 hn
    exact ⟨b, off, e, by omega, hc⟩⟩
theorem RM.step (h : RM f w B A c l) (hb : Below B w w') (hB : B ≤ B') : RM f w' B' A c l := (h.below hb).more hB
theorem RM.drewN (h : RM f w B A c l) (k : Nat) : RM f (w.drewN k) B A c l := h
theorem RM.take (h : RM f w B A c l) (k : Nat) : RM f w B A c (l.take k) := by
  refine ⟨by have := h.1; rw [List.length_take]; omega, by have := h.2.1; rw [List.length_take]; omega, fun hn => ?_⟩
  rw [List.length_take] at hn
  obtain ⟨b, off, e, hlt, hc⟩ := h.2.2 (by omega)
  refine ⟨b, off, e, hlt, fun j x hj => ?_⟩
  rw [List.getElem?_take] at hj
  split at hj
  · exact hc j x hj
  · cases hj
theorem RM.at_ (h : RM f w B A c l) (hn : 0 < l.length) : ∃ b off, A = some ⟨b, off, none⟩ ∧ b < B ∧ ∀ k x, l[k]? = some x → w.cell? ⟨b, off + k, none⟩ = some (f x) := h.2.2 hn

theorem OM.big (h : OM e f w base A c l) : l.length ≤ 140737488351232 := h.2
theorem OM.nil (e : TypeId) (f : α → Value) (w : World) (base : Nat) : OM e f w base none 0 ([] : List α) := ⟨by simpa using World.ownsRow_nil w base e 1, by simp⟩
theorem OM.form (h : OM e f w base A c l) : (A = none ∧ c = 0 ∧ l = []) ∨ ∃ g, A = some ⟨g, 0, none⟩ ∧ base ≤ g ∧ g < w.heap.size ∧ l.length ≤ c := by
  rcases h.1.2 with ⟨e, h0⟩ | ⟨g, cap, cur, e, hb, hh, hn, _⟩
  · simp only [Value.slice.injEq] at e
    exact .inl ⟨e.1, e.2.2, List.eq_nil_of_length_eq_zero h0⟩
  · simp only [Value.slice.injEq] at e
    obtain ⟨e1, e2, e3⟩ := e
    subst e3
    exact .inr ⟨g, e1, hb, (Array.getElem?_eq_some_iff.1 hh).1, hn⟩
theorem OM.lc (h : OM e f w base A c l) : l.length ≤ c := by
  rcases h.form with ⟨_, _, rfl⟩ | ⟨g, _, _, _, h⟩
  · simp
  · exact h
theorem OM.cell {g : Nat} (h : OM e f w base (some ⟨g, 0, none⟩) c l) {k : Nat} {x : α} (hk : l[k]? = some x) : w.cell? ⟨g, k, none⟩ = some (f x) := by
  have hlt : k < l.length := (List.getElem?_eq_some_iff.1 hk).1
  rw [h.1.cellAt k (by omega), List.getElem?_map, hk]; rfl
theorem OM.rl (h : OM e f w base A c l) : RM f w w.heap.size A c l := by
  refine ⟨h.lc, h.big, fun hn => ?_⟩
  rcases h.form with ⟨_, _, rfl⟩ | ⟨g, rfl, hb, hlt, _⟩
  · simp at hn
  · refine ⟨g, 0, rfl, hlt, fun k x hk => ?_⟩
    rw [Nat.zero_add]
    exact h.cell hk
theorem OM.base_le (h : OM e f w base A c l) (hb : B ≤ base) : OM e f w B A c l := by
  refine ⟨⟨h.1.1, ?_⟩, h.2⟩
  rcases h.1.2 with h2 | ⟨g, cap, cur, a, b, r⟩
  · exact .inl h2
  · exact .inr ⟨g, cap, cur, a, by omega, r⟩
theorem OM.kept (h : OM e f w base A c l) (hk : ∀ g, A = some ⟨g, 0, none⟩ → w'.heap[g]? = w.heap[g]?) : OM e f w' base A c l := by
  refine ⟨⟨h.1.1, ?_⟩, h.2⟩
  rcases h.1.2 with h2 | ⟨g, cap, cur, a, b, hh, r⟩
  · exact .inl h2
  · have ha : A = some ⟨g, 0, none⟩ := by simp only [Value.slice.injEq] at a; exact a.1
    exact .inr ⟨g, cap, cur, a, b, by rw [hk g ha]; exact hh, r⟩
theorem OM.lt {g : Nat} (h : OM e f w base (some ⟨g, 0, none⟩) c l) : base ≤ g ∧ g < w.heap.size := by
  rcases h.form with ⟨e, _⟩ | ⟨g', e, h1, h2, _⟩
  · cases e
  · simp only [Option.some.injEq, Addr.mk.injEq, and_true] at e
    subst e
    exact ⟨h1, h2⟩
theorem OM.below (h : OM e f w base A c l) (hb : Below B w w') (hB : w.heap.size ≤ B) : OM e f w' base A c l :=
  h.kept fun g hg => hb.block g (by subst hg; have := h.lt; omega)
theorem OM.grown {row : Option Nat} (h : OM e f w base A c l) (hg : w.grownBy w' row) (hne : ∀ g, A = some ⟨g, 0, none⟩ → row ≠ some g) : OM e f w' base A c l :=
  h.kept fun g ha => hg.block g (by subst ha; exact h.lt.2) (fun he => hne g ha he.symm)
theorem OM.alloc (h : OM e f w base A c l) (o : Obj) : OM e f (w.alloc o) base A c l := ⟨h.1.alloc o, h.2⟩
theorem OM.drew (h : OM e f w base A c l) : OM e f w.drew base A c l := h
theorem OM.drewN (h : OM e f w base A c l) (k : Nat) : OM e f (w.drewN k) base A c l := h
theorem OM.take (h : OM e f w base A c l) (k : Nat) : OM e f w base A c (l.take k) := by
  have hl : (l.take k).length = min k l.length := List.length_take
  refine ⟨⟨by rw [List.length_map]; omega, ?_⟩, by have := h.big; omega⟩
  rcases h.1.2 with ⟨e, h0⟩ | ⟨g, cap, cur, a, b, hh, hn, hcm, hcs, ht⟩
  · simp only [Value.slice.injEq] at e
    left
    refine ⟨?_, by omega⟩
    rw [e.1, e.2.2]; congr 1; omega
  · simp only [Value.slice.injEq] at a
    refine .inr ⟨g, cap, cur, by rw [a.1, a.2.2], b, hh, by omega, hcm, hcs, ?_⟩
    rw [List.map_take, ← ht, List.take_take]
    congr 1
    omega
theorem OM.frozen {g : Nat} (h : OM e f w base (some ⟨g, 0, none⟩) c l) (k : Nat) : w.frozen? ⟨g, k, none⟩ = false := h.1.frozenAt k
theorem OM.set {g : Nat} (h : OM e f w base (some ⟨g, 0, none⟩) c l) (k : Nat) (x : α) :
    OM e f (w.setCell ⟨g, k, none⟩ (f x)) base (some ⟨g, 0, none⟩) c (l.set k x) := by
  have h1 := (h.1.stored k (f x)).1
  refine ⟨?_, by rw [List.length_set]; exact h.big⟩
  rw [List.map_set, List.length_set]
  exact h1
theorem OM.far (h : OM e f w base A c l) {p : Addr} (hp : ∀ g, A = some ⟨g, 0, none⟩ → g ≠ p.block) (u : Value) : OM e f (w.setCell p u) base A c l :=
  h.kept fun g hg => Below.heap_setCell _ _ _ _ (hp g hg)
end

theorem bdNT {B : Nat} {a w : World} (h : Below B a w) (n : Nat) : Below B a (w.drewN n) := h.trans ⟨rfl, rfl, rfl, Nat.le_refl _, fun _ _ => rfl⟩
theorem quiet_leftT {P : Program} {f : FuncId} {args : Array Value} {w : World} {n : Nat} {v : Value}
    (h : Calls P f args (w.drewN n) fun e w' => e = .returned v ∧ w.drewN n = w') : Calls P f args (w.drewN n) fun e w'' => e = .returned v ∧ ∃ m, w'' = w.drewN m :=
  h.mono fun _ _ ⟨he, hm⟩ => ⟨he, n, hm.symm⟩
theorem quiet_someT {P : Program} {f : FuncId} {args : Array Value} {w : World} {n : Nat} {v : Value}
    (h : Calls P f args (w.drewN n) fun e w' => e = .returned v ∧ ∃ m, w' = (w.drewN n).drewN m) : Calls P f args (w.drewN n) fun e w'' => e = .returned v ∧ ∃ m, w'' = w.drewN m :=
  h.mono fun _ _ ⟨he, m, hm⟩ => ⟨he, n + m, by rw [hm, World.drewN_drewN]⟩

/-- make([]T, n), an element's cells one -/
theorem wp_makeT {P : Program} (w : World) {ops : Array Oper} {rest : List Oper} {o : Oper} {a : Act} {Q : Exit → Act → World → Prop}
    (T e : TypeId) {α : Type} (f : α → Value) (x0 : α) (by_ : Nat) (hu : P.underlying T = some (.slice e)) (hi : (P.info? e).map (fun i => (i.zero, i.size, i.bytes)) = some (some (f x0), 1, by_)) (h1 : (f x0).cells = #[f x0])
    (hg : o.guard = none) (x c : Operand) (hop : o.op = Op.makeSlice T x c)
    (kl kc : IntKind) (L C : Int) (n : Nat) (hl : a.eval x = .int kl L) (hc : a.eval c = .int kc C) (hL : L = (n : Int)) (hC : C = (n : Int)) (hn : n ≤ 140737488351232) (hby : by_ * n ≤ 281474976710656)
    (hK : ∀ w', OM e f w' w.heap.size (some ⟨w.heap.size, 0, none⟩) n (List.replicate n x0) → w.grownBy w' none → w.heap.size + 1 ≤ w'.heap.size → wpList P ops Q rest (a.put o.dst (.slice (some ⟨w.heap.size, 0, none⟩) n n)) w') :
    wpList P ops Q (o :: rest) a w := by
  obtain ⟨i, hi, h0, hi1, h2⟩ := info_parts hi
  refine wpList_make_full w hg x c T hop w.heap.size e i (f x0) 1 hu hi h0 hi1 kl kc L C n hl hc hL hC (by rw [h2]; exact hby) (by unfold maxLen; omega) (Nat.le_refl _) ?_
  intro w' hown hgr
  have e2 : (madeCells (f x0).cells (n * 1)).toList = (List.replicate n x0).map f := by
    rw [h1, Nat.mul_one]
    simp only [madeCells]
    apply List.ext_getElem
    · simp
    · intro k hk1 hk2
      simp [Nat.mod_one]
  rw [e2] at hown
  have hO : OM e f w' w.heap.size (some ⟨w.heap.size, 0, none⟩) n (List.replicate n x0) := ⟨by simpa using hown, by simpa using hn⟩
  exact hK w' hO hgr hO.lt.2

theorem run_append_nilT {P : Program} (w : World) {base : Nat} {T ty e : TypeId} {i : TypeInfo} (ht : P.underlying T = some (.slice e)) (hi : P.info? e = some i)
    {v : Value} {n : Nat} {xs : List Value} (hown : w.ownsRow base e 1 v n xs) (ad : Option Addr) (d : Nat) : (Builtin.append_ #[T, T] ty #[v, .slice ad 0 d]).run P w = .ok v w := by
  cases ad with
  | none =>
    rcases hown.2 with ⟨rfl, rfl⟩ | ⟨g, cap, cur, rfl, _, _, hnc, _⟩
    · simp [Builtin.append_, run_underlying ht, sizeOf, typeInfo, hi, Builtin.lenOf, Builtin.firstCells]
    · simp [Builtin.append_, run_underlying ht, sizeOf, typeInfo, hi, Builtin.lenOf, Builtin.firstCells, hnc, storeCells]
  | some ad =>
    rcases hown.2 with ⟨rfl, rfl⟩ | ⟨g, cap, cur, rfl, _, _, hnc, _⟩
    · simp [Builtin.append_, run_underlying ht, sizeOf, typeInfo, hi, Builtin.lenOf, Builtin.firstCells, loadCells, loadCellsFrom]
    · simp [Builtin.append_, run_underlying ht, sizeOf, typeInfo, hi, Builtin.lenOf, Builtin.firstCells, hnc, storeCells, loadCells, loadCellsFrom]

/-- append(v, r...): behind a row of the call's own (nil too) -/
theorem wp_appT {P : Program} (w : World) {ops : Array Oper} {rest : List Oper} {o : Oper} {a : Act} {Q : Exit → Act → World → Prop}
    (T e : TypeId) {α : Type} (f : α → Value) (x0 : α) (by_ : Nat) (hu : P.underlying T = some (.slice e)) (hi : (P.info? e).map (fun i => (i.zero, i.size, i.bytes)) = some (some (f x0), 1, by_)) (h1 : ∀ x, (f x).cells = #[f x] ∧ (f x).oneCell' = true)
    (hg : o.guard = none) (s x : Operand) (hop : o.op = Op.call { callee := Callee.builtin Builtin.append, args := #[s, x], argTypes := #[T, T] })
    (base : Nat) (A : Option Addr) (c n : Nat) (l : List α) (hs : a.eval s = .slice A n c) (hn : n = l.length) (hown : OM e f w base A c l)
    (D : Option Addr) (d m : Nat) (r : List α) (hx : a.eval x = .slice D m d) (hm : m = r.length) (Br : Nat) (hr : RM f w Br D d r)
    (hlen : l.length + r.length ≤ 140737488351232) (hby : (l.length + r.length) * by_ ≤ 140737488355328) (hbase : base ≤ w.heap.size)
    (hK : ∀ A' c' w', OM e f w' base A' c' (l ++ r) → w.grownBy w' (Value.slice A n c).ownBlock → (∀ g, A' = some ⟨g, 0, none⟩ → g < w.heap.size → A = some ⟨g, 0, none⟩) →
      wpList P ops Q rest (a.put o.dst (.slice A' (l ++ r).length c')) w') :
    wpList P ops Q (o :: rest) a w := by
  obtain ⟨i, hi, h0, hi1, h2⟩ := info_parts hi
  subst hn hm
  refine wpList_plain hg fun K hK' => ?_
  have key : ∃ v' w', (Builtin.append_ #[T, T] o.type #[.slice A l.length c, .slice D r.length d]).run P w = .ok v' w' ∧ w'.ownsRow base e 1 v' (l.length + r.length) (l.map f ++ r.map f) ∧ w.grownBy w' (Value.slice A l.length c).ownBlock ∧ (v'.ownBlock = (Value.slice A l.length c).ownBlock ∨ v'.ownBlock = some w.heap.size) := by
    by_cases hr0 : r.length = 0
    · have hrn : r = [] := List.eq_nil_of_length_eq_zero hr0
      subst hrn
      exact ⟨_, w, run_append_nilT w hu hi hown.1 D d, by simpa using hown.1, World.grownBy.refl w _, .inl rfl⟩
    · obtain ⟨b, off, rfl, _, hc⟩ := hr.2.2 (by omega)
      obtain ⟨v', w', hrun, q1, q2, _, q4⟩ := run_append_own_at (P := P) w base T o.type e i (f x0) 1 by_ hu hi h0 hi1 h2 (by rw [(h1 x0).1]; rfl) (by omega) (.slice A l.length c) l.length (l.map f) hown.1 ⟨b, off, none⟩ r.length d (r.map f) (by simp)
        (by
          intro j u hj
          rw [List.getElem?_map] at hj
          obtain ⟨y, hy, rfl⟩ := Option.map_eq_some_iff.1 hj
          rw [Addr.add_lit]
          exact hc j y hy)
        (by
          intro u hu
          obtain ⟨y, _, rfl⟩ := List.mem_map.1 hu
          exact (h1 y).2)
        (by unfold maxLen; omega) hby hbase
      exact ⟨v', w', hrun, q1, q2, q4⟩
  obtain ⟨v', w', hrun, q1, q2, q4⟩ := key
  unfold Oper.wp execOp
  simp only [hop, resolve, invoke, builtin, Sem.run_bind, Sem.run_pure, Result.andThen_ok, List.map_toArray, List.map_cons, List.map_nil, hs, hx, hrun]
  have hlen2 : (l ++ r).length = l.length + r.length := List.length_append
  rcases q1.2 with ⟨rfl, hz⟩ | ⟨g, cap, cur, rfl, a1, a2, a3, a4, a5, a6⟩
  · have hO : OM e f w' base none 0 (l ++ r) := ⟨by rw [hlen2, List.map_append, hz]; rw [hz] at q1; exact q1, by omega⟩
    have := hK none 0 w' hO q2 (by intro g hg; cases hg)
    rw [hlen2, hz] at this
    exact hK' _ _ this
  · have hO : OM e f w' base (some ⟨g, 0, none⟩) cap (l ++ r) := ⟨by rw [hlen2, List.map_append]; exact q1, by omega⟩
    have := hK (some ⟨g, 0, none⟩) cap w' hO q2 (by
      intro g' hg' hlt
      simp only [Option.some.injEq, Addr.mk.injEq, and_true] at hg'
      subst hg'
      rcases q4 with q | q
      · rcases hown.form with ⟨rfl, _⟩ | ⟨g2, rfl, _⟩
        · simp [Value.ownBlock] at q
        · simp [Value.ownBlock] at q; subst q; rfl
      · simp [Value.ownBlock] at q; omega)
    rw [hlen2] at this
    exact hK' _ _ this
end Go.Proofs.Ytabcnpcfknlmlaa
namespace Go.Proofs.Ytabcnpcfknlmlaa
open Go.RowKit

/-- a byte's cell -/
def f8 (x : UInt8) : Value := .int .u8 (x.toNat : Int)
def RB (w : World) (B : Nat) (A : Option Addr) (c : Nat) (l : List UInt8) : Prop := RM f8 w B A c l
def OB (w : World) (base : Nat) (A : Option Addr) (c : Nat) (l : List UInt8) : Prop := OM 5 f8 w base A c l
theorem infoB : (Try.prog.info? 5).map (fun i => (i.zero, i.size, i.bytes)) = some (some (f8 0), 1, 1) := by kernel_rfl
theorem b_get? {l : List UInt8} {k : Nat} (h : k < l.length) : l[k]? = some (l.getD k 0) := by rw [List.getElem?_eq_getElem h, List.getD_eq_getElem?_getD, List.getElem?_eq_getElem h]; rfl

theorem wp_appB (w : World) {ops : Array Oper} {rest : List Oper} {o : Oper} {a : Act} {Q : Exit → Act → World → Prop}
    (hg : o.guard = none) (s x : Operand) (hop : o.op = Op.call { callee := Callee.builtin Builtin.append, args := #[s, x], argTypes := #[22, 22] })
    (base : Nat) (A : Option Addr) (c n : Nat) (l : List UInt8) (hs : a.eval s = .slice A n c) (hn : n = l.length) (hown : OB w base A c l)
    (D : Option Addr) (d m : Nat) (r : List UInt8) (hx : a.eval x = .slice D m d) (hm : m = r.length) (Br : Nat) (hr : RB w Br D d r)
    (hlen : l.length + r.length ≤ 140737488351232) (hbase : base ≤ w.heap.size)
    (hK : ∀ A' c' w', OB w' base A' c' (l ++ r) → w.grownBy w' (Value.slice A n c).ownBlock → Below base w w' → wpList Try.prog ops Q rest (a.put o.dst (.slice A' (l ++ r).length c')) w') :
    wpList Try.prog ops Q (o :: rest) a w :=
  wp_appT w 22 5 f8 0 1 Try.underlying22 infoB (fun _ => ⟨rfl, rfl⟩) hg s x hop base A c n l hs hn hown D d m r hx hm Br hr hlen (by omega) hbase
    fun A' c' w' h1 h2 _ => hK A' c' w' h1 h2 ((Below.refl _ _).grown h2 hbase (by
      intro k hk
      rcases OM.form hown with ⟨rfl, _⟩ | ⟨g, rfl, hb, _⟩
      · simp [Value.ownBlock] at hk
      · simp [Value.ownBlock] at hk; omega))
/-- one byte in a new block, as append's source -/
theorem RB.one (w : World) (t : TypeId) (x : UInt8) : RB (w.alloc (.cells #[.int .u8 (x.toNat : Int)] t)) (w.heap.size + 1) (some ⟨w.heap.size, 0, none⟩) 1 [x] := by
  refine ⟨by simp, by simp, fun _ => ⟨_, _, rfl, by omega, fun k y hk => ?_⟩⟩
  match k, hk with
  | 0, hk => simp at hk; subst hk; have := cell_one_new w (.int .u8 (x.toNat : Int)) t 0 _ rfl; rwa [Addr.add_lit] at this
theorem OB.empty (w : World) : OB (w.alloc (.cells #[] 5)) w.heap.size (some ⟨w.heap.size, 0, none⟩) 0 [] := by
  refine ⟨?_, by simp⟩
  have h := World.ownsRow_lit (e := 5) (size := 1) w #[] 0 (Nat.le_refl _) (by unfold maxLen; omega) (by simp)
  simpa using h
/-- string(b) -/
theorem conv_bytes {w : World} {B : Nat} {A : Option Addr} {c : Nat} {l : List UInt8} (h : RB w B A c l) (hA : ∃ b off, A = some ⟨b, off, none⟩) :
    (convert 22 9 (.slice A l.length c)).run Try.prog w = .ok (.string ⟨l.toArray⟩) w := by
  obtain ⟨b, off, rfl⟩ := hA
  refine run_convert_bytes_back w 22 9 5 ⟨b, off, none⟩ c l Try.underlying22 Try.underlying5 Try.underlying9 fun j hj => ?_
  obtain ⟨b', off', e, _, hc⟩ := h.at_ (by omega)
  simp only [Option.some.injEq, Addr.mk.injEq, and_true] at e
  obtain ⟨rfl, rfl⟩ := e
  rw [Addr.add_lit]
  exact hc j _ (List.getElem?_eq_getElem hj)

/-- how long a slice is -/
def slen : Value → Nat | .slice _ n _ => n | _ => 0

def bg (l : List UInt8) (k : Nat) : UInt8 := l.getD k 0
theorem bg_get? {l : List UInt8} {k : Nat} (h : k < l.length) : l[k]? = some (bg l k) := b_get? h
theorem bg_set_eq {l : List UInt8} {k : Nat} (x : UInt8) (h : k < l.length) : bg (l.set k x) k = x := by
  unfold bg; simp [List.getD_eq_getElem?_getD, h]
theorem bg_set_ne {l : List UInt8} {k j : Nat} (x : UInt8) (h : k ≠ j) : bg (l.set k x) j = bg l j := by
  unfold bg; simp [List.getD_eq_getElem?_getD, h]
theorem bg_ext {a b : List UInt8} (hl : a.length = b.length) (h : ∀ k, k < a.length → bg a k = bg b k) : a = b := by
  refine List.ext_getElem? fun k => ?_
  by_cases hk : k < a.length
  · rw [bg_get? hk, bg_get? (by omega), h k hk]
  · rw [List.getElem?_eq_none (by omega), List.getElem?_eq_none (by omega)]
theorem bg_rev {l : List UInt8} {k : Nat} (h : k < l.length) : bg l.reverse k = bg l (l.length - 1 - k) := by
  have h1 := bg_get? (l := l.reverse) (k := k) (by rw [List.length_reverse]; exact h)
  rw [List.getElem?_reverse h, bg_get? (by omega)] at h1
  exact (Option.some.inj h1).symm
/-- turned round as far as k places from both ends -/
def Rvd (o l : List UInt8) (k : Nat) : Prop :=
  l.length = o.length ∧ ∀ t, t < o.length → bg l t = if t < k ∨ o.length ≤ t + k then bg o (o.length - 1 - t) else bg o t
theorem Rvd_step {o l : List UInt8} {k j : Nat} (h : Rvd o l k) (hj : j = o.length - 1 - k) (hk : k < j) : Rvd o ((l.set k (bg l j)).set j (bg l k)) (k + 1) := by
  refine ⟨by rw [List.length_set, List.length_set]; exact h.1, fun t ht => ?_⟩
  have hl := h.1
  by_cases h1 : j = t
  · subst h1
    rw [bg_set_eq _ (by rw [List.length_set]; omega), h.2 k (by omega), if_neg (by omega), if_pos (by omega)]
    congr 1; omega
  · rw [bg_set_ne _ h1]
    by_cases h2 : k = t
    · subst h2
      rw [bg_set_eq _ (by omega), h.2 j (by omega), if_neg (by omega), if_pos (by omega)]
      congr 1
    · rw [bg_set_ne _ h2, h.2 t ht]
      by_cases h3 : t < k ∨ o.length ≤ t + k
      · rw [if_pos h3, if_pos (by omega)]
      · rw [if_neg h3, if_neg (by omega)]
theorem Rvd_end {o l : List UInt8} {k : Nat} (h : Rvd o l k) (hk : ¬ ((k : Int) < (o.length : Int) - 1 - k)) : l = o.reverse := by
  refine bg_ext (by rw [List.length_reverse]; exact h.1) fun t ht => ?_
  have hl := h.1
  rw [bg_rev (by omega), h.2 t (by omega)]
  split
  · rfl
  · congr 1; omega
set_option maxHeartbeats 1000000 in
theorem reverse_any (A : Option Addr) (c n : Nat) (o : List UInt8) (w : World) (base : Nat) (hn : n = o.length) (h : OB w base A c o) :
    Calls Try.prog 26 #[.slice A n c] w fun e w' => e = .returned (.tuple #[]) ∧ OB w' base A c o.reverse ∧ Below base w w' := by
  subst hn
  have hbig := OM.big h
  go_enter Try.func26, Try.ntmps26
  go_wp2
  go_loopw [2, 3] (fun iv jv wr => ∃ (k : Nat) (l : List UInt8), iv = .int .i64 (k : Int) ∧ jv = .int .i64 ((o.length : Int) - 1 - k) ∧ k ≤ o.length ∧ OB wr base A c l ∧ Hid (Rvd o l k) ∧ Below base w wr) (fun iv _ _ => (o.length - intOf iv).toNat)
  case atStart => exact ⟨0, o, rfl, by simp, Nat.zero_le _, h, ⟨rfl, fun t ht => by rw [if_neg (by omega)]⟩, Below.refl _ _⟩
  case round =>
    obtain ⟨k, l, rfl, rfl, hk, hO, hR, hbel⟩ := hrel
    by_cases h0 : (k : Int) < (o.length : Int) - 1 - k
    · have hl := hR.out.1
      have HL := Lib.hid hl
      rcases OM.form hO with ⟨_, _, he⟩ | ⟨g, rfl, hg1, hg2, _⟩
      · rw [he] at hl; simp at hl; omega
      · obtain ⟨j, hj⟩ : ∃ j, j = o.length - 1 - k := ⟨_, rfl⟩
        have e0 : (o.length : Int) - 1 - (k : Int) = (j : Int) := by omega
        have hkj : k < j := by omega
        have hjl : j < o.length := by omega
        have hck := OM.cell hO (bg_get? (l := l) (k := k) (by omega))
        have hcj := OM.cell hO (bg_get? (l := l) (k := j) (by omega))
        have hfk := OM.frozen hO k
        have hfj := OM.frozen hO j
        have hst := Lib.hid (Rvd_step hR.out hj hkj)
        have hset := OM.set (OM.set hO k (bg l j)) j (bg l k)
        have hbel2 := (hbel.setCell (p := ⟨g, k, none⟩) hg1 (f8 (bg l j))).setCell (p := ⟨g, j, none⟩) hg1 (f8 (bg l k))
        have HJ := Lib.hid hj
        have E0 := Lib.hid e0
        clear hl hj
        simp only [f8] at hck hcj
        go_wp2
        go_region
        go_wp2
        go_roundw
        case rel => exact ⟨k + 1, _, by go_num, by go_num, by omega, hset, hst, Below.drew hbel2⟩
        case measure => simp [intOf]; omega
    · have hfin := Lib.hid (Rvd_end hR.out h0)
      go_wp2
      go_end0
      refine ⟨rfl, ?_, hbel⟩
      rw [← hfin.out]; exact hO
end Go.Proofs.Ytabcnpcfknlmlaa
namespace Go.Proofs.Ytabcnpcfknlmlaa

def lv : List UInt8 → Nat
  | [] => 0
  | x :: l => x.toNat + 256 * lv l
theorem lv_lt : ∀ l : List UInt8, lv l < 256 ^ l.length
  | [] => by simp [lv]
  | x :: l => by
    have h1 := lv_lt l
    have h2 := x.toNat_lt
    simp only [lv, List.length_cons, Nat.pow_succ]
    omega
theorem lv_append : ∀ a b : List UInt8, lv (a ++ b) = lv a + 256 ^ a.length * lv b
  | [], b => by simp [lv]
  | x :: a, b => by
    simp only [List.cons_append, lv, List.length_cons, lv_append a b, Nat.pow_succ]
    rw [Nat.mul_add, Nat.mul_comm (256 ^ a.length) 256, ← Nat.mul_assoc, Nat.add_assoc]
theorem take_bg {l : List UInt8} {k : Nat} (h : k < l.length) : l.take (k + 1) = l.take k ++ [bg l k] := by
  rw [List.take_add_one, bg_get? h]; rfl
theorem lv_take_succ {l : List UInt8} {k : Nat} (h : k < l.length) : lv (l.take (k + 1)) = lv (l.take k) + 256 ^ k * (bg l k).toNat := by
  rw [take_bg h, lv_append, List.length_take, Nat.min_eq_left (by omega)]
  simp [lv]
theorem pow8 (k : Nat) : 256 ^ k = 2 ^ (8 * k) := by rw [Nat.pow_mul]
theorem pow_parts (k : Nat) : 256 ^ k = 2 ^ (8 * (k % 4)) * Wp (k / 4) := by
  rw [pow8, Wp_eq, ← Nat.pow_add]; congr 1; omega
theorem wd_low {o : List Nat} (hb : B32 o) {k : Nat} (h : val o < 256 ^ k) : wd o (k / 4) < 2 ^ (8 * (k % 4)) := by
  rw [wd_val hb]
  refine Nat.lt_of_le_of_lt (Nat.mod_le _ _) ?_
  rw [Nat.div_lt_iff_lt_mul (Wp_pos _), ← pow_parts]; exact h
theorem shlo_byte {x : Nat} (hx : x < 256) (k : Nat) : shlo x (8 * (k % 4)) = x * 2 ^ (8 * (k % 4)) := by
  unfold shlo
  refine Nat.mod_eq_of_lt ?_
  have h4 : k % 4 < 4 := Nat.mod_lt _ (by omega)
  have : 2 ^ (8 * (k % 4)) ≤ 2 ^ 24 := Nat.pow_le_pow_right (by omega) (by omega)
  have h3 : x * 2 ^ (8 * (k % 4)) ≤ 255 * 2 ^ 24 := Nat.mul_le_mul (by omega) this
  omega
theorem put_step {o : List Nat} {l : List UInt8} {k : Nat} (hk : k < l.length) (ho : k / 4 < o.length) (h : val o = lv (l.take k)) :
    val (o.set (k / 4) (wd o (k / 4) + shlo (bg l k).toNat (8 * (k % 4)))) = lv (l.take (k + 1)) := by
  have h1 := val_set (o := o) (wd o (k / 4) + shlo (bg l k).toNat (8 * (k % 4))) ho
  rw [lv_take_succ hk, ← h, pow_parts]
  rw [shlo_byte (bg l k).toNat_lt] at h1 ⊢
  rw [Nat.add_mul] at h1
  have e : 2 ^ (8 * (k % 4)) * Wp (k / 4) * (bg l k).toNat = (bg l k).toNat * 2 ^ (8 * (k % 4)) * Wp (k / 4) := by
    rw [Nat.mul_comm _ (bg l k).toNat, Nat.mul_assoc]
  rw [e]
  omega
/-- the highest bit -/
theorem lv_last {l : List UInt8} {n : Nat} (hl : l.length = n + 1) : lv l = lv (l.take n) + 256 ^ n * (bg l n).toNat := by
  have := lv_take_succ (l := l) (k := n) (by omega)
  rw [List.take_of_length_le (by omega)] at this
  exact this
theorem lv_high {l : List UInt8} {n : Nat} (hl : l.length = n + 1) : 128 ≤ (bg l n).toNat ↔ 128 * 256 ^ n ≤ lv l := by
  rw [lv_last hl]
  have h1 := lv_lt (l.take n)
  rw [List.length_take, Nat.min_eq_left (by omega)] at h1
  have h2 := (bg l n).toNat_lt
  generalize lv (l.take n) = a at *
  generalize 256 ^ n = p at *
  generalize (bg l n).toNat = x at *
  constructor
  · intro h
    have := Nat.mul_le_mul_left p h
    rw [Nat.mul_comm p 128] at this
    omega
  · intro h
    rcases Nat.lt_or_ge x 128 with hx | hx
    · have := Nat.mul_le_mul_left p (Nat.succ_le_of_lt hx)
      rw [Nat.succ_eq_add_one, Nat.mul_add, Nat.mul_one, Nat.mul_comm p 128] at this
      omega
    · exact hx
end Go.Proofs.Ytabcnpcfknlmlaa
namespace Go.Proofs.Ytabcnpcfknlmlaa

def byteN (u j : Nat) : UInt8 := UInt8.ofNat (u / 256 ^ j % 256)
theorem byteN_nat (u j : Nat) : (byteN u j).toNat = u / 256 ^ j % 256 := by
  unfold byteN; exact UInt8.toNat_ofNat_of_lt' (Nat.mod_lt _ (by omega))
/-- the first k of s bytes, then 0s -/
def tgt (u s k : Nat) : List UInt8 := (List.range s).map fun j => if j < k then byteN u j else 0
theorem tgt_len (u s k : Nat) : (tgt u s k).length = s := by simp [tgt]
theorem tgt_zero (u s : Nat) : tgt u s 0 = List.replicate s 0 := by
  unfold tgt
  apply List.ext_getElem
  · simp
  · intro j h1 h2; simp
theorem tgt_set {u s k : Nat} (h : k < s) : (tgt u s k).set k (byteN u k) = tgt u s (k + 1) := by
  unfold tgt
  apply List.ext_getElem
  · simp
  · intro j h1 h2
    simp only [List.length_set, List.length_map, List.length_range] at h1
    rw [List.getElem_set]
    simp only [List.getElem_map, List.getElem_range]
    by_cases e : k = j
    · subst e; simp
    · rw [if_neg e]
      by_cases hj : j < k
      · rw [if_pos hj, if_pos (by omega)]
      · rw [if_neg hj, if_neg (by omega)]
theorem byteN_out {u k : Nat} (h : u < 256 ^ k) : byteN u k = 0 := by
  unfold byteN; rw [Nat.div_eq_of_lt h]; rfl
theorem tgt_out {u s k : Nat} (h : u < 256 ^ k) : tgt u s k = tgt u s (k + 1) := by
  unfold tgt
  refine List.map_congr_left fun j _ => ?_
  by_cases hj : j < k
  · rw [if_pos hj, if_pos (by omega)]
  · rw [if_neg hj]
    by_cases e : j = k
    · subst e; rw [if_pos (by omega), byteN_out h]
    · rw [if_neg (by omega)]
/-- all s bytes -/
def bytesU (u s : Nat) : List UInt8 := tgt u s s
theorem bytesU_len (u s : Nat) : (bytesU u s).length = s := tgt_len ..
theorem bytesU_succ (u s : Nat) : bytesU u (s + 1) = bytesU u s ++ [byteN u s] := by
  unfold bytesU tgt
  rw [List.range_succ, List.map_append]
  congr 1
  · refine List.map_congr_left fun j hj => ?_
    rw [List.mem_range] at hj
    rw [if_pos (by omega), if_pos hj]
  · simp
theorem lv_bytesU (u : Nat) : ∀ s : Nat, lv (bytesU u s) = u % 256 ^ s
  | 0 => by simp [bytesU, tgt, lv, Nat.mod_one]
  | s + 1 => by
    rw [bytesU_succ, lv_append, lv_bytesU u s, bytesU_len]
    simp only [lv, byteN_nat, Nat.mul_zero, Nat.add_zero]
    rw [Nat.pow_succ, Nat.mod_mul]
/-- a word's byte is the number's -/
theorem word_byte {l : List Nat} (hb : B32 l) (k : Nat) : wd l (k / 4) / 2 ^ (8 * (k % 4)) % 256 = val l / 256 ^ k % 256 := by
  rw [wd_val hb, pow_parts, Nat.mul_comm (2 ^ _), ← Nat.div_div_eq_div_mul]
  generalize val l / Wp (k / 4) = x
  have h4 : k % 4 < 4 := Nat.mod_lt _ (by omega)
  obtain h | h | h | h : k % 4 = 0 ∨ k % 4 = 1 ∨ k % 4 = 2 ∨ k % 4 = 3 := by omega
  all_goals rw [h]
  all_goals simp only [Nat.mul_zero, Nat.pow_zero, Nat.div_one, Nat.reduceMul, Nat.reducePow]
  all_goals omega
theorem pow_wx {s m : Nat} (h : 8 * s < 32 * m) : 256 ^ s < Wp m := by
  rw [pow8, Wp_eq]
  exact Nat.pow_lt_pow_right (by omega) h
end Go.Proofs.Ytabcnpcfknlmlaa
namespace Go.Proofs.Ytabcnpcfknlmlaa
open Go.RowKit

/-- the error of one argument, of two -/
def chkN1 (real : Bool) (r i : Rw) : Int := if nB r i = true then (if real = true ∧ 0 < i.a.length then 10 else 0) else 2
def chkN2 (real : Bool) (r i r' i' : Rw) : Int := if nB r i = true ∧ nB r' i' = true then (if real = true ∧ (0 < i.a.length ∨ 0 < i'.a.length) then 10 else 0) else 2


set_option maxHeartbeats 8000000 in
theorem check1x_any (real : Bool) (g : Nat) (s11 : Bool) (a11 b11 : List Nat) (s12 : Bool) (a12 b12 : List Nat) (A11 : Option Addr) (c11 : Nat) (D11 : Option Addr) (d11 : Nat) (A12 : Option Addr) (c12 : Nat) (D12 : Option Addr) (d12 : Nat) (w : World) (hg : SB w g [.bool s11, .slice A11 a11.length c11, .slice D11 b11.length d11, .bool s12, .slice A12 a12.length c12, .slice D12 b12.length d12]) (r11 : RW w w.heap.size A11 c11 a11) (r12 : RW w w.heap.size D11 d11 b11) (r13 : RW w w.heap.size A12 c12 a12) (r14 : RW w w.heap.size D12 d12 b12) :
    Calls Try.prog 45 #[.bool real, .slice (some ⟨g, 0, none⟩) 1 1] w fun e w' => e = .returned (.int .i64 (chkN1 real ⟨s11, a11, b11⟩ ⟨s12, a12, b12⟩)) ∧ Below w.heap.size w w' := by
  have h1 := fun w' B => esound_any (.agg #[.bool s11, .slice A11 a11.length c11, .slice D11 b11.length d11, .bool s12, .slice A12 a12.length c12, .slice D12 b12.length d12]) ⟨s11, a11, b11⟩ ⟨s12, a12, b12⟩ w' (vns r11 r12 r13 r14 B)
  obtain ⟨n1, hn1⟩ : ∃ z, Hid (nB ⟨s11, a11, b11⟩ ⟨s12, a12, b12⟩ = z) := ⟨_, rfl⟩
  simp only [hn1.out] at h1
  have hval : Hid (chkN1 real ⟨s11, a11, b11⟩ ⟨s12, a12, b12⟩ = if n1 = true then (if real = true ∧ 0 < a12.length then 10 else 0) else 2) := by
    show _ = _
    unfold chkN1
    rw [hn1.out]
  obtain ⟨ans, hans⟩ : ∃ z : Int, Hid (chkN1 real ⟨s11, a11, b11⟩ ⟨s12, a12, b12⟩ = z) := ⟨_, rfl⟩
  rw [hans.out]
  go_enter Try.func45, Try.ntmps45
  go_wp2_with fail
  go_loopg [11] 1 (fun gg iv wr => ∃ k : Nat, k ≤ 1 ∧ 1 - k = gg ∧ iv = .int .i64 (k : Int) ∧ (1 ≤ k → n1 = true) ∧ Below w.heap.size w wr)
  case atStart => exact ⟨0, by omega, rfl, rfl, by intro h; omega, Below.refl _ _⟩
  case round =>
    obtain ⟨k, hk, rfl, rfl, q1, Bl⟩ := hrel
    by_cases h0 : k < 1
    · obtain rfl : k = 0 := by omega
      · have G := hg.nx Bl
        have m0 := G.cell 0
        have m1 := G.cell 1
        have m2 := G.cell 2
        have m3 := G.cell 3
        have m4 := G.cell 4
        have m5 := G.cell 5
        have Bn := bal wr (.cells #[.bool s11, .slice A11 a11.length c11, .slice D11 b11.length d11, .bool s12, .slice A12 a12.length c12, .slice D12 b12.length d12] 27)
        cases n1 with
        | false =>
          go_wp2_with fail
          refine (h1 _ (bt Bl Bn)).mono ?_; rintro e w3 ⟨rfl, B3⟩
          go_wp2_with fail
          go_ret
          exact ⟨by rw [← hans.out, hval.out, if_neg (by simp)]; rfl, bt (bt Bl Bn) B3⟩
        | true =>
          go_wp2_with fail
          refine (h1 _ (bt Bl Bn)).mono ?_; rintro e w3 ⟨rfl, B3⟩
          go_wp2_with fail
          go_roundg 0
          case measure => omega
          case rel => exact ⟨1, by omega, rfl, rfl, fun _ => by trivial, bt (bt Bl Bn) B3⟩
    · obtain rfl : k = 1 := by omega
      have t1 := q1 (by omega)
      subst t1
      clear q1 h0
      have hval2 : Hid (ans = if real = true ∧ 0 < a12.length then 10 else 0) := by show _ = _; rw [← hans.out, hval.out, if_pos rfl]
      clear hval
      go_wp2_with fail
      go_loopg [21] 1 (fun gg iv ww => ∃ k : Nat, k ≤ 1 ∧ 1 - k = gg ∧ iv = .int .i64 (k : Int) ∧ (1 ≤ k → ¬ (real = true ∧ 0 < a12.length)) ∧ Below w.heap.size w ww)
      case atStart => exact ⟨0, by omega, rfl, rfl, by intro h; omega, Bl⟩
      case round =>
        obtain ⟨k, hk, rfl, rfl, q1, Bm⟩ := hrel
        by_cases h0 : k < 1
        · obtain rfl : k = 0 := by omega
          · have G := hg.nx Bm
            have m0 := G.cell 0
            have m1 := G.cell 1
            have m2 := G.cell 2
            have m3 := G.cell 3
            have m4 := G.cell 4
            have m5 := G.cell 5
            have Bn := bal wr (.cells #[.bool s11, .slice A11 a11.length c11, .slice D11 b11.length d11, .bool s12, .slice A12 a12.length c12, .slice D12 b12.length d12] 27)
            cases real with
            | false =>
              go_wp2_with fail
              go_roundg 0
              case measure => omega
              case rel => exact ⟨1, by omega, rfl, rfl, by intro _ h; exact absurd h.1 (by simp), bt Bm Bn⟩
            | true =>
              by_cases hl : 0 < a12.length
              · go_wp2_with fail
                go_ret
                exact ⟨by rw [hval2.out, if_pos ⟨by trivial, hl⟩]; rfl, bt Bm Bn⟩
              · go_wp2_with fail
                go_roundg 0
                case measure => omega
                case rel => exact ⟨1, by omega, rfl, rfl, fun _ h => hl h.2, bt Bm Bn⟩
        · obtain rfl : k = 1 := by omega
          have z1 := q1 (by omega)
          have hfin : Hid (ans = 0) := by
            show _ = _
            rw [hval2.out, if_neg]
            rintro ⟨x1, x2⟩
            exact z1 ⟨x1, x2⟩
          clear q1 z1 hval2 h0
          go_wp2_with fail
          go_ret
          exact ⟨by rw [hfin.out]; rfl, Bm⟩


set_option maxHeartbeats 8000000 in
theorem check2x_any (real : Bool) (g : Nat) (s11 : Bool) (a11 b11 : List Nat) (s12 : Bool) (a12 b12 : List Nat) (A11 : Option Addr) (c11 : Nat) (D11 : Option Addr) (d11 : Nat) (A12 : Option Addr) (c12 : Nat) (D12 : Option Addr) (d12 : Nat) (s21 : Bool) (a21 b21 : List Nat) (s22 : Bool) (a22 b22 : List Nat) (A21 : Option Addr) (c21 : Nat) (D21 : Option Addr) (d21 : Nat) (A22 : Option Addr) (c22 : Nat) (D22 : Option Addr) (d22 : Nat) (w : World) (hg : SB w g [.bool s11, .slice A11 a11.length c11, .slice D11 b11.length d11, .bool s12, .slice A12 a12.length c12, .slice D12 b12.length d12, .bool s21, .slice A21 a21.length c21, .slice D21 b21.length d21, .bool s22, .slice A22 a22.length c22, .slice D22 b22.length d22]) (r11 : RW w w.heap.size A11 c11 a11) (r12 : RW w w.heap.size D11 d11 b11) (r13 : RW w w.heap.size A12 c12 a12) (r14 : RW w w.heap.size D12 d12 b12) (r21 : RW w w.heap.size A21 c21 a21) (r22 : RW w w.heap.size D21 d21 b21) (r23 : RW w w.heap.size A22 c22 a22) (r24 : RW w w.heap.size D22 d22 b22) :
    Calls Try.prog 45 #[.bool real, .slice (some ⟨g, 0, none⟩) 2 2] w fun e w' => e = .returned (.int .i64 (chkN2 real ⟨s11, a11, b11⟩ ⟨s12, a12, b12⟩ ⟨s21, a21, b21⟩ ⟨s22, a22, b22⟩)) ∧ Below w.heap.size w w' := by
  have h1 := fun w' B => esound_any (.agg #[.bool s11, .slice A11 a11.length c11, .slice D11 b11.length d11, .bool s12, .slice A12 a12.length c12, .slice D12 b12.length d12]) ⟨s11, a11, b11⟩ ⟨s12, a12, b12⟩ w' (vns r11 r12 r13 r14 B)
  have h2 := fun w' B => esound_any (.agg #[.bool s21, .slice A21 a21.length c21, .slice D21 b21.length d21, .bool s22, .slice A22 a22.length c22, .slice D22 b22.length d22]) ⟨s21, a21, b21⟩ ⟨s22, a22, b22⟩ w' (vns r21 r22 r23 r24 B)
  obtain ⟨n1, hn1⟩ : ∃ z, Hid (nB ⟨s11, a11, b11⟩ ⟨s12, a12, b12⟩ = z) := ⟨_, rfl⟩
  simp only [hn1.out] at h1
  obtain ⟨n2, hn2⟩ : ∃ z, Hid (nB ⟨s21, a21, b21⟩ ⟨s22, a22, b22⟩ = z) := ⟨_, rfl⟩
  simp only [hn2.out] at h2
  have hval : Hid (chkN2 real ⟨s11, a11, b11⟩ ⟨s12, a12, b12⟩ ⟨s21, a21, b21⟩ ⟨s22, a22, b22⟩ = if n1 = true ∧ n2 = true then (if real = true ∧ (0 < a12.length ∨ 0 < a22.length) then 10 else 0) else 2) := by
    show _ = _
    unfold chkN2
    rw [hn1.out, hn2.out]
  obtain ⟨ans, hans⟩ : ∃ z : Int, Hid (chkN2 real ⟨s11, a11, b11⟩ ⟨s12, a12, b12⟩ ⟨s21, a21, b21⟩ ⟨s22, a22, b22⟩ = z) := ⟨_, rfl⟩
  rw [hans.out]
  go_enter Try.func45, Try.ntmps45
  go_wp2_with fail
  go_loopg [11] 2 (fun gg iv wr => ∃ k : Nat, k ≤ 2 ∧ 2 - k = gg ∧ iv = .int .i64 (k : Int) ∧ (1 ≤ k → n1 = true) ∧ (2 ≤ k → n2 = true) ∧ Below w.heap.size w wr)
  case atStart => exact ⟨0, by omega, rfl, rfl, by intro h; omega, by intro h; omega, Below.refl _ _⟩
  case round =>
    obtain ⟨k, hk, rfl, rfl, q1, q2, Bl⟩ := hrel
    by_cases h0 : k < 2
    · obtain rfl | rfl : k = 0 ∨ k = 1 := by omega
      · have G := hg.nx Bl
        have m0 := G.cell 0
        have m1 := G.cell 1
        have m2 := G.cell 2
        have m3 := G.cell 3
        have m4 := G.cell 4
        have m5 := G.cell 5
        have Bn := bal wr (.cells #[.bool s11, .slice A11 a11.length c11, .slice D11 b11.length d11, .bool s12, .slice A12 a12.length c12, .slice D12 b12.length d12] 27)
        cases n1 with
        | false =>
          go_wp2_with fail
          refine (h1 _ (bt Bl Bn)).mono ?_; rintro e w3 ⟨rfl, B3⟩
          go_wp2_with fail
          go_ret
          exact ⟨by rw [← hans.out, hval.out, if_neg (by simp)]; rfl, bt (bt Bl Bn) B3⟩
        | true =>
          go_wp2_with fail
          refine (h1 _ (bt Bl Bn)).mono ?_; rintro e w3 ⟨rfl, B3⟩
          go_wp2_with fail
          go_roundg 1
          case measure => omega
          case rel => exact ⟨1, by omega, rfl, rfl, fun _ => by trivial, by intro h; omega, bt (bt Bl Bn) B3⟩
      · have G := hg.nx Bl
        have m0 := G.cell 6
        have m1 := G.cell 7
        have m2 := G.cell 8
        have m3 := G.cell 9
        have m4 := G.cell 10
        have m5 := G.cell 11
        have Bn := bal wr (.cells #[.bool s21, .slice A21 a21.length c21, .slice D21 b21.length d21, .bool s22, .slice A22 a22.length c22, .slice D22 b22.length d22] 27)
        cases n2 with
        | false =>
          go_wp2_with fail
          refine (h2 _ (bt Bl Bn)).mono ?_; rintro e w3 ⟨rfl, B3⟩
          go_wp2_with fail
          go_ret
          exact ⟨by rw [← hans.out, hval.out, if_neg (by simp)]; rfl, bt (bt Bl Bn) B3⟩
        | true =>
          go_wp2_with fail
          refine (h2 _ (bt Bl Bn)).mono ?_; rintro e w3 ⟨rfl, B3⟩
          go_wp2_with fail
          go_roundg 0
          case measure => omega
          case rel => exact ⟨2, by omega, rfl, rfl, fun _ => q1 (by omega), fun _ => by trivial, bt (bt Bl Bn) B3⟩
    · obtain rfl : k = 2 := by omega
      have t1 := q1 (by omega)
      have t2 := q2 (by omega)
      subst t1 t2
      clear q1 q2 h0
      have hval2 : Hid (ans = if real = true ∧ (0 < a12.length ∨ 0 < a22.length) then 10 else 0) := by show _ = _; rw [← hans.out, hval.out, if_pos ⟨rfl, rfl⟩]
      clear hval
      go_wp2_with fail
      go_loopg [21] 2 (fun gg iv ww => ∃ k : Nat, k ≤ 2 ∧ 2 - k = gg ∧ iv = .int .i64 (k : Int) ∧ (1 ≤ k → ¬ (real = true ∧ 0 < a12.length)) ∧ (2 ≤ k → ¬ (real = true ∧ 0 < a22.length)) ∧ Below w.heap.size w ww)
      case atStart => exact ⟨0, by omega, rfl, rfl, by intro h; omega, by intro h; omega, Bl⟩
      case round =>
        obtain ⟨k, hk, rfl, rfl, q1, q2, Bm⟩ := hrel
        by_cases h0 : k < 2
        · obtain rfl | rfl : k = 0 ∨ k = 1 := by omega
          · have G := hg.nx Bm
            have m0 := G.cell 0
            have m1 := G.cell 1
            have m2 := G.cell 2
            have m3 := G.cell 3
            have m4 := G.cell 4
            have m5 := G.cell 5
            have Bn := bal wr (.cells #[.bool s11, .slice A11 a11.length c11, .slice D11 b11.length d11, .bool s12, .slice A12 a12.length c12, .slice D12 b12.length d12] 27)
            cases real with
            | false =>
              go_wp2_with fail
              go_roundg 1
              case measure => omega
              case rel => exact ⟨1, by omega, rfl, rfl, by intro _ h; exact absurd h.1 (by simp), by intro _ h; exact absurd h.1 (by simp), bt Bm Bn⟩
            | true =>
              by_cases hl : 0 < a12.length
              · go_wp2_with fail
                go_ret
                exact ⟨by rw [hval2.out, if_pos ⟨by trivial, .inl hl⟩]; rfl, bt Bm Bn⟩
              · go_wp2_with fail
                go_roundg 1
                case measure => omega
                case rel => exact ⟨1, by omega, rfl, rfl, fun _ h => hl h.2, by intro h; omega, bt Bm Bn⟩
          · have G := hg.nx Bm
            have m0 := G.cell 6
            have m1 := G.cell 7
            have m2 := G.cell 8
            have m3 := G.cell 9
            have m4 := G.cell 10
            have m5 := G.cell 11
            have Bn := bal wr (.cells #[.bool s21, .slice A21 a21.length c21, .slice D21 b21.length d21, .bool s22, .slice A22 a22.length c22, .slice D22 b22.length d22] 27)
            cases real with
            | false =>
              go_wp2_with fail
              go_roundg 0
              case measure => omega
              case rel => exact ⟨2, by omega, rfl, rfl, by intro _ h; exact absurd h.1 (by simp), by intro _ h; exact absurd h.1 (by simp), bt Bm Bn⟩
            | true =>
              by_cases hl : 0 < a22.length
              · go_wp2_with fail
                go_ret
                exact ⟨by rw [hval2.out, if_pos ⟨by trivial, .inr hl⟩]; rfl, bt Bm Bn⟩
              · go_wp2_with fail
                go_roundg 0
                case measure => omega
                case rel => exact ⟨2, by omega, rfl, rfl, fun _ => q1 (by omega), fun _ h => hl h.2, bt Bm Bn⟩
        · obtain rfl : k = 2 := by omega
          have z1 := q1 (by omega)
          have z2 := q2 (by omega)
          have hfin : Hid (ans = 0) := by
            show _ = _
            rw [hval2.out, if_neg]
            rintro ⟨x1, x2⟩
            rcases x2 with x2 | x2
            · exact z1 ⟨x1, x2⟩
            · exact z2 ⟨x1, x2⟩
          clear q1 q2 z1 z2 hval2 h0
          go_wp2_with fail
          go_ret
          exact ⟨by rw [hfin.out]; rfl, Bm⟩

end Go.Proofs.Ytabcnpcfknlmlaa
namespace Go.Proofs.Ytabcnpcfknlmlaa
open Go.RowKit

theorem S3.put6 {w w1 : World} {b : Nat} {l1 l2 : List Value} (h : S3 w b l1 l2 6 w1) (x y z x' y' z' : Value) : S3 w b l1 l2 6 (Go.Proofs.Ytabcnpcfknlmlaa.wr6 w1 (b + 2) x y z x' y' z') :=
  ⟨h.1.wr6 (by omega) x y z x' y' z', h.2.1.wr6 (by omega) x y z x' y' z', (h.2.2.1.put6 x y z x' y' z').rc, wr6_below h.2.2.2 (by omega) x y z x' y' z'⟩
/-- a number in memory: two rationals -/
def RN (w : World) (B : Nat) (v : Value) (x y : Rat) : Prop := VN w B v (rwq x) (rwq y)


set_option maxRecDepth 100000 in
set_option maxHeartbeats 16000000 in
theorem times_rat (V U : Value) (x y u v : Rat) (w : World) (hV : RN w w.heap.size V x y) (hU : RN w w.heap.size U u v)
    (b11 : qw x + qw u ≤ 6900) (b22 : qw y + qw v ≤ 6900) (b12 : qw x + qw v ≤ 6900) (b21 : qw y + qw u ≤ 6900) :
    Calls Try.prog 49 #[V, U] w (RetN w (rwq (x * u + -(y * v))) (rwq (x * v + y * u))) := by
  obtain ⟨A1, c1, D1, d1, A2, c2, D2, d2, rfl, r1, r2, r3, r4⟩ := hV
  obtain ⟨E1, e1, F1, f1, E2, e2, F2, f2, rfl, r5, r6, r7, r8⟩ := hU
  simp only [rwq] at r1 r2 r3 r4 r5 r6 r7 r8 ⊢
  have hx : RQ w w.heap.size (.agg #[.bool (qn x), .slice A1 (digs (qt x)).length c1, .slice D1 (digs (qd x)).length d1]) x := ⟨A1, c1, D1, d1, rfl, r1, r2⟩
  have hy : RQ w w.heap.size (.agg #[.bool (qn y), .slice A2 (digs (qt y)).length c2, .slice D2 (digs (qd y)).length d2]) y := ⟨A2, c2, D2, d2, rfl, r3, r4⟩
  have hu : RQ w w.heap.size (.agg #[.bool (qn u), .slice E1 (digs (qt u)).length e1, .slice F1 (digs (qd u)).length f1]) u := ⟨E1, e1, F1, f1, rfl, r5, r6⟩
  have hv : RQ w w.heap.size (.agg #[.bool (qn v), .slice E2 (digs (qt v)).length e2, .slice F2 (digs (qd v)).length f2]) v := ⟨E2, e2, F2, f2, rfl, r7, r8⟩
  have k0 := S3.new w [.bool (qn x), .slice A1 (digs (qt x)).length c1, .slice D1 (digs (qd x)).length d1, .bool (qn y), .slice A2 (digs (qt y)).length c2, .slice D2 (digs (qd y)).length d2] [.bool (qn u), .slice E1 (digs (qt u)).length e1, .slice F1 (digs (qd u)).length f1, .bool (qn v), .slice E2 (digs (qt v)).length e2, .slice F2 (digs (qd v)).length f2] [.bool false, .slice none 0 0, .slice none 0 0, .bool false, .slice none 0 0, .slice none 0 0] 27 27 27 6
  have m1 := qw_mul x u
  have m2 := qw_mul y v
  have m3 := qw_mul x v
  have m4 := qw_mul y u
  have hb1 : qw (x * u) + qw (-(y * v)) ≤ 14000 := by rw [qw_neg]; omega
  have hb2 : qw (x * v) + qw (y * u) ≤ 14000 := by omega
  go_enter Try.func49, Try.ntmps49
  go_wp2_with fail
  have k0d := k0.dr
  have k0s := And.intro (k0d.1.cell 0) (And.intro (k0d.1.cell 1) (And.intro (k0d.1.cell 2) (And.intro (k0d.1.cell 3) (And.intro (k0d.1.cell 4) (And.intro (k0d.1.cell 5) (And.intro (k0d.2.1.cell 0) (And.intro (k0d.2.1.cell 1) (And.intro (k0d.2.1.cell 2) (And.intro (k0d.2.1.cell 3) (And.intro (k0d.2.1.cell 4) (And.intro (k0d.2.1.cell 5) (And.intro (k0d.2.2.1.cell 0) (And.intro (k0d.2.2.1.frozen 0) (And.intro (k0d.2.2.1.cell 1) (And.intro (k0d.2.2.1.frozen 1) (And.intro (k0d.2.2.1.cell 2) (And.intro (k0d.2.2.1.frozen 2) (And.intro (k0d.2.2.1.cell 3) (And.intro (k0d.2.2.1.frozen 3) (And.intro (k0d.2.2.1.cell 4) (And.intro (k0d.2.2.1.frozen 4) (And.intro (k0d.2.2.1.cell 5) (And.intro (k0d.2.2.1.frozen 5) (k0d))))))))))))))))))))))))
  go_region_held3 (fun w' => w'.cell? ⟨w.heap.size, 0, none⟩ = some (.bool (qn x)) ∧ w'.cell? ⟨w.heap.size, 1, none⟩ = some (.slice A1 (digs (qt x)).length c1) ∧ w'.cell? ⟨w.heap.size, 2, none⟩ = some (.slice D1 (digs (qd x)).length d1) ∧ w'.cell? ⟨w.heap.size, 3, none⟩ = some (.bool (qn y)) ∧ w'.cell? ⟨w.heap.size, 4, none⟩ = some (.slice A2 (digs (qt y)).length c2) ∧ w'.cell? ⟨w.heap.size, 5, none⟩ = some (.slice D2 (digs (qd y)).length d2) ∧ w'.cell? ⟨w.heap.size + 1, 0, none⟩ = some (.bool (qn u)) ∧ w'.cell? ⟨w.heap.size + 1, 1, none⟩ = some (.slice E1 (digs (qt u)).length e1) ∧ w'.cell? ⟨w.heap.size + 1, 2, none⟩ = some (.slice F1 (digs (qd u)).length f1) ∧ w'.cell? ⟨w.heap.size + 1, 3, none⟩ = some (.bool (qn v)) ∧ w'.cell? ⟨w.heap.size + 1, 4, none⟩ = some (.slice E2 (digs (qt v)).length e2) ∧ w'.cell? ⟨w.heap.size + 1, 5, none⟩ = some (.slice F2 (digs (qd v)).length f2) ∧ w'.cell? ⟨w.heap.size + 2, 0, none⟩ = some (cv w' (w.heap.size + 2) 0) ∧ w'.frozen? ⟨w.heap.size + 2, 0, none⟩ = false ∧ w'.cell? ⟨w.heap.size + 2, 1, none⟩ = some (cv w' (w.heap.size + 2) 1) ∧ w'.frozen? ⟨w.heap.size + 2, 1, none⟩ = false ∧ w'.cell? ⟨w.heap.size + 2, 2, none⟩ = some (cv w' (w.heap.size + 2) 2) ∧ w'.frozen? ⟨w.heap.size + 2, 2, none⟩ = false ∧ w'.cell? ⟨w.heap.size + 2, 3, none⟩ = some (cv w' (w.heap.size + 2) 3) ∧ w'.frozen? ⟨w.heap.size + 2, 3, none⟩ = false ∧ w'.cell? ⟨w.heap.size + 2, 4, none⟩ = some (cv w' (w.heap.size + 2) 4) ∧ w'.frozen? ⟨w.heap.size + 2, 4, none⟩ = false ∧ w'.cell? ⟨w.heap.size + 2, 5, none⟩ = some (cv w' (w.heap.size + 2) 5) ∧ w'.frozen? ⟨w.heap.size + 2, 5, none⟩ = false ∧ S3 w w.heap.size [.bool (qn x), .slice A1 (digs (qt x)).length c1, .slice D1 (digs (qd x)).length d1, .bool (qn y), .slice A2 (digs (qt y)).length c2, .slice D2 (digs (qd y)).length d2] [.bool (qn u), .slice E1 (digs (qt u)).length e1, .slice F1 (digs (qd u)).length f1, .bool (qn v), .slice E2 (digs (qt v)).length e2, .slice F2 (digs (qd v)).length f2] 6 w')
    (first
      | with_reducible exact k0s
      | (have s1 := (by assumption : _ ∧ _ ∧ _ ∧ _ ∧ _ ∧ _ ∧ _ ∧ _ ∧ _ ∧ _ ∧ _ ∧ _ ∧ _ ∧ _ ∧ _ ∧ _ ∧ _ ∧ _ ∧ _ ∧ _ ∧ _ ∧ _ ∧ _ ∧ _ ∧ S3 w w.heap.size [.bool (qn x), .slice A1 (digs (qt x)).length c1, .slice D1 (digs (qd x)).length d1, .bool (qn y), .slice A2 (digs (qt y)).length c2, .slice D2 (digs (qd y)).length d2] [.bool (qn u), .slice E1 (digs (qt u)).length e1, .slice F1 (digs (qd u)).length f1, .bool (qn v), .slice E2 (digs (qt v)).length e2, .slice F2 (digs (qd v)).length f2] 6 _).2.2.2.2.2.2.2.2.2.2.2.2.2.2.2.2.2.2.2.2.2.2.2.2.nx BX; have q0_ := s1.1.cell 0; have q1_ := s1.1.cell 1; have q2_ := s1.1.cell 2; have q3_ := s1.1.cell 3; have q4_ := s1.1.cell 4; have q5_ := s1.1.cell 5; have q6_ := s1.2.1.cell 0; have q7_ := s1.2.1.cell 1; have q8_ := s1.2.1.cell 2; have q9_ := s1.2.1.cell 3; have q10_ := s1.2.1.cell 4; have q11_ := s1.2.1.cell 5; have q12_ := s1.2.2.1.cell 0; have q13_ := s1.2.2.1.frozen 0; have q14_ := s1.2.2.1.cell 1; have q15_ := s1.2.2.1.frozen 1; have q16_ := s1.2.2.1.cell 2; have q17_ := s1.2.2.1.frozen 2; have q18_ := s1.2.2.1.cell 3; have q19_ := s1.2.2.1.frozen 3; have q20_ := s1.2.2.1.cell 4; have q21_ := s1.2.2.1.frozen 4; have q22_ := s1.2.2.1.cell 5; have q23_ := s1.2.2.1.frozen 5; with_reducible exact ⟨q0_, q1_, q2_, q3_, q4_, q5_, q6_, q7_, q8_, q9_, q10_, q11_, q12_, q13_, q14_, q15_, q16_, q17_, q18_, q19_, q20_, q21_, q22_, q23_, s1⟩)
      | (have s1 := (by assumption : _ ∧ _ ∧ _ ∧ _ ∧ _ ∧ _ ∧ _ ∧ _ ∧ _ ∧ _ ∧ _ ∧ _ ∧ _ ∧ _ ∧ _ ∧ _ ∧ _ ∧ _ ∧ _ ∧ _ ∧ _ ∧ _ ∧ _ ∧ _ ∧ S3 w w.heap.size [.bool (qn x), .slice A1 (digs (qt x)).length c1, .slice D1 (digs (qd x)).length d1, .bool (qn y), .slice A2 (digs (qt y)).length c2, .slice D2 (digs (qd y)).length d2] [.bool (qn u), .slice E1 (digs (qt u)).length e1, .slice F1 (digs (qd u)).length f1, .bool (qn v), .slice E2 (digs (qt v)).length e2, .slice F2 (digs (qd v)).length f2] 6 _).2.2.2.2.2.2.2.2.2.2.2.2.2.2.2.2.2.2.2.2.2.2.2.2.put6 (.bool (qn (x * u + -(y * v)))) (.slice A17 (digs (qt (x * u + -(y * v)))).length c17) (.slice D17 (digs (qd (x * u + -(y * v)))).length d17) (.bool (qn (x * v + y * u))) (.slice A20 (digs (qt (x * v + y * u))).length c20) (.slice D20 (digs (qd (x * v + y * u))).length d20); have q0_ := s1.1.cell 0; have q1_ := s1.1.cell 1; have q2_ := s1.1.cell 2; have q3_ := s1.1.cell 3; have q4_ := s1.1.cell 4; have q5_ := s1.1.cell 5; have q6_ := s1.2.1.cell 0; have q7_ := s1.2.1.cell 1; have q8_ := s1.2.1.cell 2; have q9_ := s1.2.1.cell 3; have q10_ := s1.2.1.cell 4; have q11_ := s1.2.1.cell 5; have q12_ := s1.2.2.1.cell 0; have q13_ := s1.2.2.1.frozen 0; have q14_ := s1.2.2.1.cell 1; have q15_ := s1.2.2.1.frozen 1; have q16_ := s1.2.2.1.cell 2; have q17_ := s1.2.2.1.frozen 2; have q18_ := s1.2.2.1.cell 3; have q19_ := s1.2.2.1.frozen 3; have q20_ := s1.2.2.1.cell 4; have q21_ := s1.2.2.1.frozen 4; have q22_ := s1.2.2.1.cell 5; have q23_ := s1.2.2.1.frozen 5; with_reducible exact ⟨q0_, q1_, q2_, q3_, q4_, q5_, q6_, q7_, q8_, q9_, q10_, q11_, q12_, q13_, q14_, q15_, q16_, q17_, q18_, q19_, q20_, q21_, q22_, q23_, s1⟩))
    (first
      | (go_at_call_of 73 (Value.agg #[.bool (qn x), .slice A1 (digs (qt x)).length c1, .slice D1 (digs (qd x)).length d1]); go_at_call_of 73 (Value.agg #[.bool (qn u), .slice E1 (digs (qt u)).length e1, .slice F1 (digs (qd u)).length f1]); have hh := (by assumption : _ ∧ _ ∧ _ ∧ _ ∧ _ ∧ _ ∧ _ ∧ _ ∧ _ ∧ _ ∧ _ ∧ _ ∧ _ ∧ _ ∧ _ ∧ _ ∧ _ ∧ _ ∧ _ ∧ _ ∧ _ ∧ _ ∧ _ ∧ _ ∧ S3 w w.heap.size [.bool (qn x), .slice A1 (digs (qt x)).length c1, .slice D1 (digs (qd x)).length d1, .bool (qn y), .slice A2 (digs (qt y)).length c2, .slice D2 (digs (qd y)).length d2] [.bool (qn u), .slice E1 (digs (qt u)).length e1, .slice F1 (digs (qd u)).length f1, .bool (qn v), .slice E2 (digs (qt v)).length e2, .slice F2 (digs (qd v)).length f2] 6 _).2.2.2.2.2.2.2.2.2.2.2.2.2.2.2.2.2.2.2.2.2.2.2.2; refine (product_any _ _ x u _ (hx.st hh.2.2.2) (hu.st hh.2.2.2) (by omega)).mono ?_; rintro e w14 ⟨A14, c14, D14, d14, rfl, O14, P14, BX⟩; have B14 := BX)
      | (go_at_call_of 73 (Value.agg #[.bool (qn y), .slice A2 (digs (qt y)).length c2, .slice D2 (digs (qd y)).length d2]); go_at_call_of 73 (Value.agg #[.bool (qn v), .slice E2 (digs (qt v)).length e2, .slice F2 (digs (qd v)).length f2]); have hh := (by assumption : _ ∧ _ ∧ _ ∧ _ ∧ _ ∧ _ ∧ _ ∧ _ ∧ _ ∧ _ ∧ _ ∧ _ ∧ _ ∧ _ ∧ _ ∧ _ ∧ _ ∧ _ ∧ _ ∧ _ ∧ _ ∧ _ ∧ _ ∧ _ ∧ S3 w w.heap.size [.bool (qn x), .slice A1 (digs (qt x)).length c1, .slice D1 (digs (qd x)).length d1, .bool (qn y), .slice A2 (digs (qt y)).length c2, .slice D2 (digs (qd y)).length d2] [.bool (qn u), .slice E1 (digs (qt u)).length e1, .slice F1 (digs (qd u)).length f1, .bool (qn v), .slice E2 (digs (qt v)).length e2, .slice F2 (digs (qd v)).length f2] 6 _).2.2.2.2.2.2.2.2.2.2.2.2.2.2.2.2.2.2.2.2.2.2.2.2; refine (product_any _ _ y v _ (hy.st hh.2.2.2) (hv.st hh.2.2.2) (by omega)).mono ?_; rintro e w15 ⟨A15, c15, D15, d15, rfl, O15, P15, BX⟩; have B15 := BX)
      | (go_at_call 54; have hh := (by assumption : _ ∧ _ ∧ _ ∧ _ ∧ _ ∧ _ ∧ _ ∧ _ ∧ _ ∧ _ ∧ _ ∧ _ ∧ _ ∧ _ ∧ _ ∧ _ ∧ _ ∧ _ ∧ _ ∧ _ ∧ _ ∧ _ ∧ _ ∧ _ ∧ S3 w w.heap.size [.bool (qn x), .slice A1 (digs (qt x)).length c1, .slice D1 (digs (qd x)).length d1, .bool (qn y), .slice A2 (digs (qt y)).length c2, .slice D2 (digs (qd y)).length d2] [.bool (qn u), .slice E1 (digs (qt u)).length e1, .slice F1 (digs (qd u)).length f1, .bool (qn v), .slice E2 (digs (qt v)).length e2, .slice F2 (digs (qd v)).length f2] 6 _).2.2.2.2.2.2.2.2.2.2.2.2.2.2.2.2.2.2.2.2.2.2.2.2; refine (minus_any (y * v) A15 D15 c15 d15 _).mono ?_; rintro e w16 ⟨rfl, BX⟩; have B16 := BX)
      | (go_at_call_of 53 (Value.agg #[.bool (qn (-(y * v))), .slice A15 (digs (qt (-(y * v)))).length c15, .slice D15 (digs (qd (-(y * v)))).length d15]); have hh := (by assumption : _ ∧ _ ∧ _ ∧ _ ∧ _ ∧ _ ∧ _ ∧ _ ∧ _ ∧ _ ∧ _ ∧ _ ∧ _ ∧ _ ∧ _ ∧ _ ∧ _ ∧ _ ∧ _ ∧ _ ∧ _ ∧ _ ∧ _ ∧ _ ∧ S3 w w.heap.size [.bool (qn x), .slice A1 (digs (qt x)).length c1, .slice D1 (digs (qd x)).length d1, .bool (qn y), .slice A2 (digs (qt y)).length c2, .slice D2 (digs (qd y)).length d2] [.bool (qn u), .slice E1 (digs (qt u)).length e1, .slice F1 (digs (qd u)).length f1, .bool (qn v), .slice E2 (digs (qt v)).length e2, .slice F2 (digs (qd v)).length f2] 6 _).2.2.2.2.2.2.2.2.2.2.2.2.2.2.2.2.2.2.2.2.2.2.2.2; refine (sum_any _ _ (x * u) (-(y * v)) _ ⟨A14, c14, D14, d14, rfl, st (st O14.rw B15) B16, st (st P14.rw B15) B16⟩ ⟨A15, c15, D15, d15, rfl, by rw [q_neg_t]; exact st O15.rw B16, by rw [q_neg_d]; exact st P15.rw B16⟩ hb1).mono ?_; rintro e w17 ⟨A17, c17, D17, d17, rfl, O17, P17, BX⟩; have B17 := BX)
      | (go_at_call_of 73 (Value.agg #[.bool (qn x), .slice A1 (digs (qt x)).length c1, .slice D1 (digs (qd x)).length d1]); go_at_call_of 73 (Value.agg #[.bool (qn v), .slice E2 (digs (qt v)).length e2, .slice F2 (digs (qd v)).length f2]); have hh := (by assumption : _ ∧ _ ∧ _ ∧ _ ∧ _ ∧ _ ∧ _ ∧ _ ∧ _ ∧ _ ∧ _ ∧ _ ∧ _ ∧ _ ∧ _ ∧ _ ∧ _ ∧ _ ∧ _ ∧ _ ∧ _ ∧ _ ∧ _ ∧ _ ∧ S3 w w.heap.size [.bool (qn x), .slice A1 (digs (qt x)).length c1, .slice D1 (digs (qd x)).length d1, .bool (qn y), .slice A2 (digs (qt y)).length c2, .slice D2 (digs (qd y)).length d2] [.bool (qn u), .slice E1 (digs (qt u)).length e1, .slice F1 (digs (qd u)).length f1, .bool (qn v), .slice E2 (digs (qt v)).length e2, .slice F2 (digs (qd v)).length f2] 6 _).2.2.2.2.2.2.2.2.2.2.2.2.2.2.2.2.2.2.2.2.2.2.2.2; refine (product_any _ _ x v _ (hx.st hh.2.2.2) (hv.st hh.2.2.2) (by omega)).mono ?_; rintro e w18 ⟨A18, c18, D18, d18, rfl, O18, P18, BX⟩; have B18 := BX)
      | (go_at_call_of 73 (Value.agg #[.bool (qn y), .slice A2 (digs (qt y)).length c2, .slice D2 (digs (qd y)).length d2]); go_at_call_of 73 (Value.agg #[.bool (qn u), .slice E1 (digs (qt u)).length e1, .slice F1 (digs (qd u)).length f1]); have hh := (by assumption : _ ∧ _ ∧ _ ∧ _ ∧ _ ∧ _ ∧ _ ∧ _ ∧ _ ∧ _ ∧ _ ∧ _ ∧ _ ∧ _ ∧ _ ∧ _ ∧ _ ∧ _ ∧ _ ∧ _ ∧ _ ∧ _ ∧ _ ∧ _ ∧ S3 w w.heap.size [.bool (qn x), .slice A1 (digs (qt x)).length c1, .slice D1 (digs (qd x)).length d1, .bool (qn y), .slice A2 (digs (qt y)).length c2, .slice D2 (digs (qd y)).length d2] [.bool (qn u), .slice E1 (digs (qt u)).length e1, .slice F1 (digs (qd u)).length f1, .bool (qn v), .slice E2 (digs (qt v)).length e2, .slice F2 (digs (qd v)).length f2] 6 _).2.2.2.2.2.2.2.2.2.2.2.2.2.2.2.2.2.2.2.2.2.2.2.2; refine (product_any _ _ y u _ (hy.st hh.2.2.2) (hu.st hh.2.2.2) (by omega)).mono ?_; rintro e w19 ⟨A19, c19, D19, d19, rfl, O19, P19, BX⟩; have B19 := BX)
      | (go_at_call 53; have hh := (by assumption : _ ∧ _ ∧ _ ∧ _ ∧ _ ∧ _ ∧ _ ∧ _ ∧ _ ∧ _ ∧ _ ∧ _ ∧ _ ∧ _ ∧ _ ∧ _ ∧ _ ∧ _ ∧ _ ∧ _ ∧ _ ∧ _ ∧ _ ∧ _ ∧ S3 w w.heap.size [.bool (qn x), .slice A1 (digs (qt x)).length c1, .slice D1 (digs (qd x)).length d1, .bool (qn y), .slice A2 (digs (qt y)).length c2, .slice D2 (digs (qd y)).length d2] [.bool (qn u), .slice E1 (digs (qt u)).length e1, .slice F1 (digs (qd u)).length f1, .bool (qn v), .slice E2 (digs (qt v)).length e2, .slice F2 (digs (qd v)).length f2] 6 _).2.2.2.2.2.2.2.2.2.2.2.2.2.2.2.2.2.2.2.2.2.2.2.2; refine (sum_any _ _ (x * v) (y * u) _ ⟨A18, c18, D18, d18, rfl, st O18.rw B19, st P18.rw B19⟩ ⟨A19, c19, D19, d19, rfl, O19.rw, P19.rw⟩ hb2).mono ?_; rintro e w20 ⟨A20, c20, D20, d20, rfl, O20, P20, BX⟩; have B20 := BX; have kk := hh.nx BX; have sz := hh.2.2.1.2))
  have s6 := kk.2.2.1.put6 (.bool (qn (x * u + -(y * v)))) (.slice A17 (digs (qt (x * u + -(y * v)))).length c17) (.slice D17 (digs (qd (x * u + -(y * v)))).length d17) (.bool (qn (x * v + y * u))) (.slice A20 (digs (qt (x * v + y * u))).length c20) (.slice D20 (digs (qd (x * v + y * u))).length d20)
  have B6 := wr6_below (b := w.heap.size + 2) kk.2.2.2 (by omega) (.bool (qn (x * u + -(y * v)))) (.slice A17 (digs (qt (x * u + -(y * v)))).length c17) (.slice D17 (digs (qd (x * u + -(y * v)))).length d17) (.bool (qn (x * v + y * u))) (.slice A20 (digs (qt (x * v + y * u))).length c20) (.slice D20 (digs (qd (x * v + y * u))).length d20)
  have hz0 := k0d.2.2.1.2
  have hz14 := B14.size
  have hz15 := B15.size
  have hz16 := B16.size
  have hz17 := B17.size
  have hz18 := B18.size
  have hz1 : w.heap.size + 2 < w16.heap.size := by omega
  have hz2 : w.heap.size + 2 < w19.heap.size := sz
  have BE := bt (bt B18 B19) B20
  have Oa := (O17.below BE (Nat.le_refl _)).put6 (b := w.heap.size + 2) hz1 (.bool (qn (x * u + -(y * v)))) (.slice A17 (digs (qt (x * u + -(y * v)))).length c17) (.slice D17 (digs (qd (x * u + -(y * v)))).length d17) (.bool (qn (x * v + y * u))) (.slice A20 (digs (qt (x * v + y * u))).length c20) (.slice D20 (digs (qd (x * v + y * u))).length d20)
  have Ob := (P17.below BE (Nat.le_refl _)).put6 (b := w.heap.size + 2) hz1 (.bool (qn (x * u + -(y * v)))) (.slice A17 (digs (qt (x * u + -(y * v)))).length c17) (.slice D17 (digs (qd (x * u + -(y * v)))).length d17) (.bool (qn (x * v + y * u))) (.slice A20 (digs (qt (x * v + y * u))).length c20) (.slice D20 (digs (qd (x * v + y * u))).length d20)
  have Oc := O20.put6 (b := w.heap.size + 2) hz2 (.bool (qn (x * u + -(y * v)))) (.slice A17 (digs (qt (x * u + -(y * v)))).length c17) (.slice D17 (digs (qd (x * u + -(y * v)))).length d17) (.bool (qn (x * v + y * u))) (.slice A20 (digs (qt (x * v + y * u))).length c20) (.slice D20 (digs (qd (x * v + y * u))).length d20)
  have Od := P20.put6 (b := w.heap.size + 2) hz2 (.bool (qn (x * u + -(y * v)))) (.slice A17 (digs (qt (x * u + -(y * v)))).length c17) (.slice D17 (digs (qd (x * u + -(y * v)))).length d17) (.bool (qn (x * v + y * u))) (.slice A20 (digs (qt (x * v + y * u))).length c20) (.slice D20 (digs (qd (x * v + y * u))).length d20)
  have r0' := s6.cell 0
  have r1' := s6.cell 1
  have r2' := s6.cell 2
  have r3' := s6.cell 3
  have r4' := s6.cell 4
  have r5' := s6.cell 5
  unfold wr6 wr3 at s6 B6 Oa Ob Oc Od r0' r1' r2' r3' r4' r5'
  clear hz0 hz14 hz15 hz16 hz17 hz18
  go_wp2_with fail
  refine bodyPost_ret (v := .agg #[.bool (qn (x * u + -(y * v))), .slice A17 (digs (qt (x * u + -(y * v)))).length c17, .slice D17 (digs (qd (x * u + -(y * v)))).length d17, .bool (qn (x * v + y * u)), .slice A20 (digs (qt (x * v + y * u))).length c20, .slice D20 (digs (qd (x * v + y * u))).length d20]) (by simp [results, r0', r1', r2', r3', r4', r5', go_sem]) rfl ?_
  have hle1 : w.heap.size ≤ w16.heap.size := by omega
  have hle2 : w.heap.size ≤ w19.heap.size := by omega
  exact ⟨A17, c17, D17, d17, A20, c20, D20, d20, rfl, Oa.base_le hle1, Ob.base_le hle1, Oc.base_le hle2, Od.base_le hle2, B6⟩

end Go.Proofs.Ytabcnpcfknlmlaa
namespace Go.Proofs.Ytabcnpcfknlmlaa
open Go.RowKit

theorem nB_qq {p q : Rat} (h1 : qw p ≤ 512) (h2 : qw q ≤ 512) : nB ⟨qn p, digs (qt p), digs (qd p)⟩ ⟨qn q, digs (qt q), digs (qd q)⟩ = true := by
  unfold nB
  dsimp only
  rw [rsB_of p h1, rsB_of q h2]; rfl


set_option maxHeartbeats 4000000 in
theorem esub_bad (V U : Value) (r i r' i' : Rw) (w : World) (hV : VN w w.heap.size V r i) (hU : VN w w.heap.size U r' i') (hb : ¬ (nB r i = true ∧ nB r' i' = true)) :
    Calls Try.prog 22 #[V, U] w (RetNE w (rw0, rw0, 2)) := by
  obtain ⟨s1, a1, b1⟩ := r
  obtain ⟨s2, a2, b2⟩ := i
  obtain ⟨t1, g1, h1⟩ := r'
  obtain ⟨t2, g2, h2⟩ := i'
  obtain ⟨A1, c1, D1, d1, A2, c2, D2, d2, rfl, p1, p2, p3, p4⟩ := hV
  obtain ⟨E1, e1, F1, f1, E2, e2, F2, f2, rfl, p5, p6, p7, p8⟩ := hU
  dsimp only at p1 p2 p3 p4 p5 p6 p7 p8 ⊢
  have k0 := S3.new w [.bool s1, .slice A1 a1.length c1, .slice D1 b1.length d1, .bool s2, .slice A2 a2.length c2, .slice D2 b2.length d2] [.bool t1, .slice E1 g1.length e1, .slice F1 h1.length f1, .bool t2, .slice E2 g2.length e2, .slice F2 h2.length f2] [.bool false, .slice none 0 0, .slice none 0 0, .bool false, .slice none 0 0, .slice none 0 0] 27 27 27 6
  have C0 := k0.2.2.2
  have z3 : (((w.alloc (.cells #[.bool s1, .slice A1 a1.length c1, .slice D1 b1.length d1, .bool s2, .slice A2 a2.length c2, .slice D2 b2.length d2] 27)).alloc (.cells #[.bool t1, .slice E1 g1.length e1, .slice F1 h1.length f1, .bool t2, .slice E2 g2.length e2, .slice F2 h2.length f2] 27)).alloc (.cells #[.bool false, .slice none 0 0, .slice none 0 0, .bool false, .slice none 0 0, .slice none 0 0] 27)).heap.size = w.heap.size + 3 := by simp
  have Bs := bal (((w.alloc (.cells #[.bool s1, .slice A1 a1.length c1, .slice D1 b1.length d1, .bool s2, .slice A2 a2.length c2, .slice D2 b2.length d2] 27)).alloc (.cells #[.bool t1, .slice E1 g1.length e1, .slice F1 h1.length f1, .bool t2, .slice E2 g2.length e2, .slice F2 h2.length f2] 27)).alloc (.cells #[.bool false, .slice none 0 0, .slice none 0 0, .bool false, .slice none 0 0, .slice none 0 0] 27)) (.cells #[.bool s1, .slice A1 a1.length c1, .slice D1 b1.length d1, .bool s2, .slice A2 a2.length c2, .slice D2 b2.length d2, .bool t1, .slice E1 g1.length e1, .slice F1 h1.length f1, .bool t2, .slice E2 g2.length e2, .slice F2 h2.length f2] 27)
  have sg := SB.new (((w.alloc (.cells #[.bool s1, .slice A1 a1.length c1, .slice D1 b1.length d1, .bool s2, .slice A2 a2.length c2, .slice D2 b2.length d2] 27)).alloc (.cells #[.bool t1, .slice E1 g1.length e1, .slice F1 h1.length f1, .bool t2, .slice E2 g2.length e2, .slice F2 h2.length f2] 27)).alloc (.cells #[.bool false, .slice none 0 0, .slice none 0 0, .bool false, .slice none 0 0, .slice none 0 0] 27)) [.bool s1, .slice A1 a1.length c1, .slice D1 b1.length d1, .bool s2, .slice A2 a2.length c2, .slice D2 b2.length d2, .bool t1, .slice E1 g1.length e1, .slice F1 h1.length f1, .bool t2, .slice E2 g2.length e2, .slice F2 h2.length f2] 27
  rw [z3] at sg
  have C1 := bt C0 Bs
  have k1 := k0.nx Bs
  have hck := check2x_any false (w.heap.size + 3) _ _ _ _ _ _ _ _ _ _ _ _ _ _ _ _ _ _ _ _ _ _ _ _ _ _ _ _ _ sg (st p1 C1) (st p2 C1) (st p3 C1) (st p4 C1) (st p5 C1) (st p6 C1) (st p7 C1) (st p8 C1)
  have hc2 : chkN2 false ⟨s1, a1, b1⟩ ⟨s2, a2, b2⟩ ⟨t1, g1, h1⟩ ⟨t2, g2, h2⟩ = 2 := by unfold chkN2; rw [if_neg hb]
  rw [hc2] at hck
  clear hb hc2 sg
  go_enter Try.func22, Try.ntmps22
  go_wp2_with fail
  refine hck.mono ?_; rintro e w3 ⟨rfl, B3⟩
  have k3 := k1.nx B3
  have hRC := k3.2.2.1
  go_wp2_with (refine wp_st6 rfl (.tmp 4) (.tmp 13) rfl _ rfl _ _ _ _ _ _ rfl hRC rfl rfl rfl rfl rfl rfl ?_)
  have s6 := hRC.put6 (.bool false) (.slice none 0 0) (.slice none 0 0) (.bool false) (.slice none 0 0) (.slice none 0 0)
  have B6 := wr6_below (b := w.heap.size + 2) k3.2.2.2 (by omega) (.bool false) (.slice none 0 0) (.slice none 0 0) (.bool false) (.slice none 0 0) (.slice none 0 0)
  have r0' := s6.cell 0
  have r1' := s6.cell 1
  have r2' := s6.cell 2
  have r3' := s6.cell 3
  have r4' := s6.cell 4
  have r5' := s6.cell 5
  refine bodyPost_ret (v := .tuple #[.agg #[.bool false, .slice none 0 0, .slice none 0 0, .bool false, .slice none 0 0, .slice none 0 0], .int .i64 2]) (by simp [results, r0', r1', r2', r3', r4', r5', go_sem]) rfl ?_
  exact retNE_nil 2 B6


set_option maxRecDepth 100000 in
set_option maxHeartbeats 16000000 in
theorem esub_ok (V U : Value) (x y u v : Rat) (w : World) (hV : RN w w.heap.size V x y) (hU : RN w w.heap.size U u v) (bx : qw x ≤ 512) (bY : qw y ≤ 512) (bu : qw u ≤ 512) (bv : qw v ≤ 512) :
    Calls Try.prog 22 #[V, U] w (RetNE w (fitQ (x + -u) (y + -v))) := by
  obtain ⟨A1, c1, D1, d1, A2, c2, D2, d2, rfl, p1, p2, p3, p4⟩ := hV
  obtain ⟨E1, e1, F1, f1, E2, e2, F2, f2, rfl, p5, p6, p7, p8⟩ := hU
  simp only [rwq] at p1 p2 p3 p4 p5 p6 p7 p8 ⊢
  have hx : RQ w w.heap.size (.agg #[.bool (qn x), .slice A1 (digs (qt x)).length c1, .slice D1 (digs (qd x)).length d1]) x := ⟨A1, c1, D1, d1, rfl, p1, p2⟩
  have hy : RQ w w.heap.size (.agg #[.bool (qn y), .slice A2 (digs (qt y)).length c2, .slice D2 (digs (qd y)).length d2]) y := ⟨A2, c2, D2, d2, rfl, p3, p4⟩
  have hu : RQ w w.heap.size (.agg #[.bool (qn u), .slice E1 (digs (qt u)).length e1, .slice F1 (digs (qd u)).length f1]) u := ⟨E1, e1, F1, f1, rfl, p5, p6⟩
  have hv : RQ w w.heap.size (.agg #[.bool (qn v), .slice E2 (digs (qt v)).length e2, .slice F2 (digs (qd v)).length f2]) v := ⟨E2, e2, F2, f2, rfl, p7, p8⟩
  have k0 := S3.new w [.bool (qn x), .slice A1 (digs (qt x)).length c1, .slice D1 (digs (qd x)).length d1, .bool (qn y), .slice A2 (digs (qt y)).length c2, .slice D2 (digs (qd y)).length d2] [.bool (qn u), .slice E1 (digs (qt u)).length e1, .slice F1 (digs (qd u)).length f1, .bool (qn v), .slice E2 (digs (qt v)).length e2, .slice F2 (digs (qd v)).length f2] [.bool false, .slice none 0 0, .slice none 0 0, .bool false, .slice none 0 0, .slice none 0 0] 27 27 27 6
  have C0 := k0.2.2.2
  have z3 : (((w.alloc (.cells #[.bool (qn x), .slice A1 (digs (qt x)).length c1, .slice D1 (digs (qd x)).length d1, .bool (qn y), .slice A2 (digs (qt y)).length c2, .slice D2 (digs (qd y)).length d2] 27)).alloc (.cells #[.bool (qn u), .slice E1 (digs (qt u)).length e1, .slice F1 (digs (qd u)).length f1, .bool (qn v), .slice E2 (digs (qt v)).length e2, .slice F2 (digs (qd v)).length f2] 27)).alloc (.cells #[.bool false, .slice none 0 0, .slice none 0 0, .bool false, .slice none 0 0, .slice none 0 0] 27)).heap.size = w.heap.size + 3 := by simp
  have Bs := bal (((w.alloc (.cells #[.bool (qn x), .slice A1 (digs (qt x)).length c1, .slice D1 (digs (qd x)).length d1, .bool (qn y), .slice A2 (digs (qt y)).length c2, .slice D2 (digs (qd y)).length d2] 27)).alloc (.cells #[.bool (qn u), .slice E1 (digs (qt u)).length e1, .slice F1 (digs (qd u)).length f1, .bool (qn v), .slice E2 (digs (qt v)).length e2, .slice F2 (digs (qd v)).length f2] 27)).alloc (.cells #[.bool false, .slice none 0 0, .slice none 0 0, .bool false, .slice none 0 0, .slice none 0 0] 27)) (.cells #[.bool (qn x), .slice A1 (digs (qt x)).length c1, .slice D1 (digs (qd x)).length d1, .bool (qn y), .slice A2 (digs (qt y)).length c2, .slice D2 (digs (qd y)).length d2, .bool (qn u), .slice E1 (digs (qt u)).length e1, .slice F1 (digs (qd u)).length f1, .bool (qn v), .slice E2 (digs (qt v)).length e2, .slice F2 (digs (qd v)).length f2] 27)
  have sg := SB.new (((w.alloc (.cells #[.bool (qn x), .slice A1 (digs (qt x)).length c1, .slice D1 (digs (qd x)).length d1, .bool (qn y), .slice A2 (digs (qt y)).length c2, .slice D2 (digs (qd y)).length d2] 27)).alloc (.cells #[.bool (qn u), .slice E1 (digs (qt u)).length e1, .slice F1 (digs (qd u)).length f1, .bool (qn v), .slice E2 (digs (qt v)).length e2, .slice F2 (digs (qd v)).length f2] 27)).alloc (.cells #[.bool false, .slice none 0 0, .slice none 0 0, .bool false, .slice none 0 0, .slice none 0 0] 27)) [.bool (qn x), .slice A1 (digs (qt x)).length c1, .slice D1 (digs (qd x)).length d1, .bool (qn y), .slice A2 (digs (qt y)).length c2, .slice D2 (digs (qd y)).length d2, .bool (qn u), .slice E1 (digs (qt u)).length e1, .slice F1 (digs (qd u)).length f1, .bool (qn v), .slice E2 (digs (qt v)).length e2, .slice F2 (digs (qd v)).length f2] 27
  rw [z3] at sg
  have C1 := bt C0 Bs
  have k1 := k0.nx Bs
  have hck := check2x_any false (w.heap.size + 3) _ _ _ _ _ _ _ _ _ _ _ _ _ _ _ _ _ _ _ _ _ _ _ _ _ _ _ _ _ sg (st p1 C1) (st p2 C1) (st p3 C1) (st p4 C1) (st p5 C1) (st p6 C1) (st p7 C1) (st p8 C1)
  have hc2 : chkN2 false ⟨qn x, digs (qt x), digs (qd x)⟩ ⟨qn y, digs (qt y), digs (qd y)⟩ ⟨qn u, digs (qt u), digs (qd u)⟩ ⟨qn v, digs (qt v), digs (qd v)⟩ = 0 := by unfold chkN2; rw [if_pos ⟨nB_qq bx bY, nB_qq bu bv⟩, if_neg (by simp)]
  rw [hc2] at hck
  have hF := fun V U w' h1 h2 => efit_any V U (x + -u) (y + -v) w' h1 h2
  generalize fitQ (x + -u) (y + -v) = ft at *
  obtain ⟨fr, fi, fk⟩ := ft
  clear hc2 sg
  have nu := qw_neg u
  have nv := qw_neg v
  go_enter Try.func22, Try.ntmps22
  go_wp2_with fail
  refine hck.mono ?_; rintro e w3 ⟨rfl, B3⟩
  have k3 := k1.nx B3
  go_wp2_with fail
  have k3d := k3.dr
  have k3s := And.intro (k3d.1.cell 0) (And.intro (k3d.1.cell 1) (And.intro (k3d.1.cell 2) (And.intro (k3d.1.cell 3) (And.intro (k3d.1.cell 4) (And.intro (k3d.1.cell 5) (And.intro (k3d.2.1.cell 0) (And.intro (k3d.2.1.cell 1) (And.intro (k3d.2.1.cell 2) (And.intro (k3d.2.1.cell 3) (And.intro (k3d.2.1.cell 4) (And.intro (k3d.2.1.cell 5) (And.intro (k3d.2.2.1.cell 0) (And.intro (k3d.2.2.1.frozen 0) (And.intro (k3d.2.2.1.cell 1) (And.intro (k3d.2.2.1.frozen 1) (And.intro (k3d.2.2.1.cell 2) (And.intro (k3d.2.2.1.frozen 2) (And.intro (k3d.2.2.1.cell 3) (And.intro (k3d.2.2.1.frozen 3) (And.intro (k3d.2.2.1.cell 4) (And.intro (k3d.2.2.1.frozen 4) (And.intro (k3d.2.2.1.cell 5) (And.intro (k3d.2.2.1.frozen 5) (k3d))))))))))))))))))))))))
  go_region_held3 (fun w' => w'.cell? ⟨w.heap.size, 0, none⟩ = some (.bool (qn x)) ∧ w'.cell? ⟨w.heap.size, 1, none⟩ = some (.slice A1 (digs (qt x)).length c1) ∧ w'.cell? ⟨w.heap.size, 2, none⟩ = some (.slice D1 (digs (qd x)).length d1) ∧ w'.cell? ⟨w.heap.size, 3, none⟩ = some (.bool (qn y)) ∧ w'.cell? ⟨w.heap.size, 4, none⟩ = some (.slice A2 (digs (qt y)).length c2) ∧ w'.cell? ⟨w.heap.size, 5, none⟩ = some (.slice D2 (digs (qd y)).length d2) ∧ w'.cell? ⟨w.heap.size + 1, 0, none⟩ = some (.bool (qn u)) ∧ w'.cell? ⟨w.heap.size + 1, 1, none⟩ = some (.slice E1 (digs (qt u)).length e1) ∧ w'.cell? ⟨w.heap.size + 1, 2, none⟩ = some (.slice F1 (digs (qd u)).length f1) ∧ w'.cell? ⟨w.heap.size + 1, 3, none⟩ = some (.bool (qn v)) ∧ w'.cell? ⟨w.heap.size + 1, 4, none⟩ = some (.slice E2 (digs (qt v)).length e2) ∧ w'.cell? ⟨w.heap.size + 1, 5, none⟩ = some (.slice F2 (digs (qd v)).length f2) ∧ w'.cell? ⟨w.heap.size + 2, 0, none⟩ = some (cv w' (w.heap.size + 2) 0) ∧ w'.frozen? ⟨w.heap.size + 2, 0, none⟩ = false ∧ w'.cell? ⟨w.heap.size + 2, 1, none⟩ = some (cv w' (w.heap.size + 2) 1) ∧ w'.frozen? ⟨w.heap.size + 2, 1, none⟩ = false ∧ w'.cell? ⟨w.heap.size + 2, 2, none⟩ = some (cv w' (w.heap.size + 2) 2) ∧ w'.frozen? ⟨w.heap.size + 2, 2, none⟩ = false ∧ w'.cell? ⟨w.heap.size + 2, 3, none⟩ = some (cv w' (w.heap.size + 2) 3) ∧ w'.frozen? ⟨w.heap.size + 2, 3, none⟩ = false ∧ w'.cell? ⟨w.heap.size + 2, 4, none⟩ = some (cv w' (w.heap.size + 2) 4) ∧ w'.frozen? ⟨w.heap.size + 2, 4, none⟩ = false ∧ w'.cell? ⟨w.heap.size + 2, 5, none⟩ = some (cv w' (w.heap.size + 2) 5) ∧ w'.frozen? ⟨w.heap.size + 2, 5, none⟩ = false ∧ S3 w w.heap.size [.bool (qn x), .slice A1 (digs (qt x)).length c1, .slice D1 (digs (qd x)).length d1, .bool (qn y), .slice A2 (digs (qt y)).length c2, .slice D2 (digs (qd y)).length d2] [.bool (qn u), .slice E1 (digs (qt u)).length e1, .slice F1 (digs (qd u)).length f1, .bool (qn v), .slice E2 (digs (qt v)).length e2, .slice F2 (digs (qd v)).length f2] 6 w')
    (first
      | with_reducible exact k3s
      | (have s1 := (by assumption : _ ∧ _ ∧ _ ∧ _ ∧ _ ∧ _ ∧ _ ∧ _ ∧ _ ∧ _ ∧ _ ∧ _ ∧ _ ∧ _ ∧ _ ∧ _ ∧ _ ∧ _ ∧ _ ∧ _ ∧ _ ∧ _ ∧ _ ∧ _ ∧ S3 w w.heap.size [.bool (qn x), .slice A1 (digs (qt x)).length c1, .slice D1 (digs (qd x)).length d1, .bool (qn y), .slice A2 (digs (qt y)).length c2, .slice D2 (digs (qd y)).length d2] [.bool (qn u), .slice E1 (digs (qt u)).length e1, .slice F1 (digs (qd u)).length f1, .bool (qn v), .slice E2 (digs (qt v)).length e2, .slice F2 (digs (qd v)).length f2] 6 _).2.2.2.2.2.2.2.2.2.2.2.2.2.2.2.2.2.2.2.2.2.2.2.2.nx BX; have q0_ := s1.1.cell 0; have q1_ := s1.1.cell 1; have q2_ := s1.1.cell 2; have q3_ := s1.1.cell 3; have q4_ := s1.1.cell 4; have q5_ := s1.1.cell 5; have q6_ := s1.2.1.cell 0; have q7_ := s1.2.1.cell 1; have q8_ := s1.2.1.cell 2; have q9_ := s1.2.1.cell 3; have q10_ := s1.2.1.cell 4; have q11_ := s1.2.1.cell 5; have q12_ := s1.2.2.1.cell 0; have q13_ := s1.2.2.1.frozen 0; have q14_ := s1.2.2.1.cell 1; have q15_ := s1.2.2.1.frozen 1; have q16_ := s1.2.2.1.cell 2; have q17_ := s1.2.2.1.frozen 2; have q18_ := s1.2.2.1.cell 3; have q19_ := s1.2.2.1.frozen 3; have q20_ := s1.2.2.1.cell 4; have q21_ := s1.2.2.1.frozen 4; have q22_ := s1.2.2.1.cell 5; have q23_ := s1.2.2.1.frozen 5; with_reducible exact ⟨q0_, q1_, q2_, q3_, q4_, q5_, q6_, q7_, q8_, q9_, q10_, q11_, q12_, q13_, q14_, q15_, q16_, q17_, q18_, q19_, q20_, q21_, q22_, q23_, s1⟩)
      | (have s1 := (by assumption : _ ∧ _ ∧ _ ∧ _ ∧ _ ∧ _ ∧ _ ∧ _ ∧ _ ∧ _ ∧ _ ∧ _ ∧ _ ∧ _ ∧ _ ∧ _ ∧ _ ∧ _ ∧ _ ∧ _ ∧ _ ∧ _ ∧ _ ∧ _ ∧ S3 w w.heap.size [.bool (qn x), .slice A1 (digs (qt x)).length c1, .slice D1 (digs (qd x)).length d1, .bool (qn y), .slice A2 (digs (qt y)).length c2, .slice D2 (digs (qd y)).length d2] [.bool (qn u), .slice E1 (digs (qt u)).length e1, .slice F1 (digs (qd u)).length f1, .bool (qn v), .slice E2 (digs (qt v)).length e2, .slice F2 (digs (qd v)).length f2] 6 _).2.2.2.2.2.2.2.2.2.2.2.2.2.2.2.2.2.2.2.2.2.2.2.2.put6 (.bool fr.s) (.slice A7 fr.a.length c7) (.slice D7 fr.b.length d7) (.bool fi.s) (.slice A8 fi.a.length c8) (.slice D8 fi.b.length d8); have q0_ := s1.1.cell 0; have q1_ := s1.1.cell 1; have q2_ := s1.1.cell 2; have q3_ := s1.1.cell 3; have q4_ := s1.1.cell 4; have q5_ := s1.1.cell 5; have q6_ := s1.2.1.cell 0; have q7_ := s1.2.1.cell 1; have q8_ := s1.2.1.cell 2; have q9_ := s1.2.1.cell 3; have q10_ := s1.2.1.cell 4; have q11_ := s1.2.1.cell 5; have q12_ := s1.2.2.1.cell 0; have q13_ := s1.2.2.1.frozen 0; have q14_ := s1.2.2.1.cell 1; have q15_ := s1.2.2.1.frozen 1; have q16_ := s1.2.2.1.cell 2; have q17_ := s1.2.2.1.frozen 2; have q18_ := s1.2.2.1.cell 3; have q19_ := s1.2.2.1.frozen 3; have q20_ := s1.2.2.1.cell 4; have q21_ := s1.2.2.1.frozen 4; have q22_ := s1.2.2.1.cell 5; have q23_ := s1.2.2.1.frozen 5; with_reducible exact ⟨q0_, q1_, q2_, q3_, q4_, q5_, q6_, q7_, q8_, q9_, q10_, q11_, q12_, q13_, q14_, q15_, q16_, q17_, q18_, q19_, q20_, q21_, q22_, q23_, s1⟩))
    (first
      | (go_at_call_of 54 (Value.agg #[.bool (qn u), .slice E1 (digs (qt u)).length e1, .slice F1 (digs (qd u)).length f1]); have hh := (by assumption : _ ∧ _ ∧ _ ∧ _ ∧ _ ∧ _ ∧ _ ∧ _ ∧ _ ∧ _ ∧ _ ∧ _ ∧ _ ∧ _ ∧ _ ∧ _ ∧ _ ∧ _ ∧ _ ∧ _ ∧ _ ∧ _ ∧ _ ∧ _ ∧ S3 w w.heap.size [.bool (qn x), .slice A1 (digs (qt x)).length c1, .slice D1 (digs (qd x)).length d1, .bool (qn y), .slice A2 (digs (qt y)).length c2, .slice D2 (digs (qd y)).length d2] [.bool (qn u), .slice E1 (digs (qt u)).length e1, .slice F1 (digs (qd u)).length f1, .bool (qn v), .slice E2 (digs (qt v)).length e2, .slice F2 (digs (qd v)).length f2] 6 _).2.2.2.2.2.2.2.2.2.2.2.2.2.2.2.2.2.2.2.2.2.2.2.2; refine (minus_any u E1 F1 e1 f1 _).mono ?_; rintro e w12 ⟨rfl, BX⟩; have B12 := BX)
      | (go_at_call_of 53 (Value.agg #[.bool (qn x), .slice A1 (digs (qt x)).length c1, .slice D1 (digs (qd x)).length d1]); have hh := (by assumption : _ ∧ _ ∧ _ ∧ _ ∧ _ ∧ _ ∧ _ ∧ _ ∧ _ ∧ _ ∧ _ ∧ _ ∧ _ ∧ _ ∧ _ ∧ _ ∧ _ ∧ _ ∧ _ ∧ _ ∧ _ ∧ _ ∧ _ ∧ _ ∧ S3 w w.heap.size [.bool (qn x), .slice A1 (digs (qt x)).length c1, .slice D1 (digs (qd x)).length d1, .bool (qn y), .slice A2 (digs (qt y)).length c2, .slice D2 (digs (qd y)).length d2] [.bool (qn u), .slice E1 (digs (qt u)).length e1, .slice F1 (digs (qd u)).length f1, .bool (qn v), .slice E2 (digs (qt v)).length e2, .slice F2 (digs (qd v)).length f2] 6 _).2.2.2.2.2.2.2.2.2.2.2.2.2.2.2.2.2.2.2.2.2.2.2.2; refine (sum_any _ _ x (-u) _ (hx.st hh.2.2.2) ⟨E1, e1, F1, f1, rfl, by rw [q_neg_t]; exact st p5 hh.2.2.2, by rw [q_neg_d]; exact st p6 hh.2.2.2⟩ (by omega)).mono ?_; rintro e w14 ⟨A14, c14, D14, d14, rfl, O14, P14, BX⟩; have B14 := BX)
      | (go_at_call_of 54 (Value.agg #[.bool (qn v), .slice E2 (digs (qt v)).length e2, .slice F2 (digs (qd v)).length f2]); have hh := (by assumption : _ ∧ _ ∧ _ ∧ _ ∧ _ ∧ _ ∧ _ ∧ _ ∧ _ ∧ _ ∧ _ ∧ _ ∧ _ ∧ _ ∧ _ ∧ _ ∧ _ ∧ _ ∧ _ ∧ _ ∧ _ ∧ _ ∧ _ ∧ _ ∧ S3 w w.heap.size [.bool (qn x), .slice A1 (digs (qt x)).length c1, .slice D1 (digs (qd x)).length d1, .bool (qn y), .slice A2 (digs (qt y)).length c2, .slice D2 (digs (qd y)).length d2] [.bool (qn u), .slice E1 (digs (qt u)).length e1, .slice F1 (digs (qd u)).length f1, .bool (qn v), .slice E2 (digs (qt v)).length e2, .slice F2 (digs (qd v)).length f2] 6 _).2.2.2.2.2.2.2.2.2.2.2.2.2.2.2.2.2.2.2.2.2.2.2.2; refine (minus_any v E2 F2 e2 f2 _).mono ?_; rintro e w13 ⟨rfl, BX⟩; have B13 := BX)
      | (go_at_call_of 53 (Value.agg #[.bool (qn y), .slice A2 (digs (qt y)).length c2, .slice D2 (digs (qd y)).length d2]); have hh := (by assumption : _ ∧ _ ∧ _ ∧ _ ∧ _ ∧ _ ∧ _ ∧ _ ∧ _ ∧ _ ∧ _ ∧ _ ∧ _ ∧ _ ∧ _ ∧ _ ∧ _ ∧ _ ∧ _ ∧ _ ∧ _ ∧ _ ∧ _ ∧ _ ∧ S3 w w.heap.size [.bool (qn x), .slice A1 (digs (qt x)).length c1, .slice D1 (digs (qd x)).length d1, .bool (qn y), .slice A2 (digs (qt y)).length c2, .slice D2 (digs (qd y)).length d2] [.bool (qn u), .slice E1 (digs (qt u)).length e1, .slice F1 (digs (qd u)).length f1, .bool (qn v), .slice E2 (digs (qt v)).length e2, .slice F2 (digs (qd v)).length f2] 6 _).2.2.2.2.2.2.2.2.2.2.2.2.2.2.2.2.2.2.2.2.2.2.2.2; refine (sum_any _ _ y (-v) _ (hy.st hh.2.2.2) ⟨E2, e2, F2, f2, rfl, by rw [q_neg_t]; exact st p7 hh.2.2.2, by rw [q_neg_d]; exact st p8 hh.2.2.2⟩ (by omega)).mono ?_; rintro e w15 ⟨A15, c15, D15, d15, rfl, O15, P15, BX⟩; have B15 := BX)
      | (go_at_call 48; have hh := (by assumption : _ ∧ _ ∧ _ ∧ _ ∧ _ ∧ _ ∧ _ ∧ _ ∧ _ ∧ _ ∧ _ ∧ _ ∧ _ ∧ _ ∧ _ ∧ _ ∧ _ ∧ _ ∧ _ ∧ _ ∧ _ ∧ _ ∧ _ ∧ _ ∧ S3 w w.heap.size [.bool (qn x), .slice A1 (digs (qt x)).length c1, .slice D1 (digs (qd x)).length d1, .bool (qn y), .slice A2 (digs (qt y)).length c2, .slice D2 (digs (qd y)).length d2] [.bool (qn u), .slice E1 (digs (qt u)).length e1, .slice F1 (digs (qd u)).length f1, .bool (qn v), .slice E2 (digs (qt v)).length e2, .slice F2 (digs (qd v)).length f2] 6 _).2.2.2.2.2.2.2.2.2.2.2.2.2.2.2.2.2.2.2.2.2.2.2.2; refine (hF _ _ _ ⟨A14, c14, D14, d14, rfl, st (st O14.rw B13) B15, st (st P14.rw B13) B15⟩ ⟨A15, c15, D15, d15, rfl, O15.rw, P15.rw⟩).mono ?_; rintro e w16 ⟨A7, c7, D7, d7, A8, c8, D8, d8, rfl, Q1, Q2, Q3, Q4, BX⟩; dsimp only at Q1 Q2 Q3 Q4; have B16 := BX; have kk := hh.nx BX; have sz := hh.2.2.1.2))
  have s6 := kk.2.2.1.put6 (.bool fr.s) (.slice A7 fr.a.length c7) (.slice D7 fr.b.length d7) (.bool fi.s) (.slice A8 fi.a.length c8) (.slice D8 fi.b.length d8)
  have B6 := wr6_below (b := w.heap.size + 2) kk.2.2.2 (by omega) (.bool fr.s) (.slice A7 fr.a.length c7) (.slice D7 fr.b.length d7) (.bool fi.s) (.slice A8 fi.a.length c8) (.slice D8 fi.b.length d8)
  have O1 := Q1.put6 (b := w.heap.size + 2) sz (.bool fr.s) (.slice A7 fr.a.length c7) (.slice D7 fr.b.length d7) (.bool fi.s) (.slice A8 fi.a.length c8) (.slice D8 fi.b.length d8)
  have O2 := Q2.put6 (b := w.heap.size + 2) sz (.bool fr.s) (.slice A7 fr.a.length c7) (.slice D7 fr.b.length d7) (.bool fi.s) (.slice A8 fi.a.length c8) (.slice D8 fi.b.length d8)
  have O3 := Q3.put6 (b := w.heap.size + 2) sz (.bool fr.s) (.slice A7 fr.a.length c7) (.slice D7 fr.b.length d7) (.bool fi.s) (.slice A8 fi.a.length c8) (.slice D8 fi.b.length d8)
  have O4 := Q4.put6 (b := w.heap.size + 2) sz (.bool fr.s) (.slice A7 fr.a.length c7) (.slice D7 fr.b.length d7) (.bool fi.s) (.slice A8 fi.a.length c8) (.slice D8 fi.b.length d8)
  have r0' := s6.cell 0
  have r1' := s6.cell 1
  have r2' := s6.cell 2
  have r3' := s6.cell 3
  have r4' := s6.cell 4
  have r5' := s6.cell 5
  unfold wr6 wr3 at s6 B6 O1 O2 O3 O4 r0' r1' r2' r3' r4' r5'
  go_wp2_with fail
  refine bodyPost_ret (v := .tuple #[.agg #[.bool fr.s, .slice A7 fr.a.length c7, .slice D7 fr.b.length d7, .bool fi.s, .slice A8 fi.a.length c8, .slice D8 fi.b.length d8], .int .i64 fk]) (by simp [results, r0', r1', r2', r3', r4', r5', go_sem]) rfl ?_
  have hle := Nat.le_of_lt (Nat.lt_of_succ_lt (Nat.lt_of_succ_lt sz))
  exact ⟨A7, c7, D7, d7, A8, c8, D8, d8, rfl, O1.base_le hle, O2.base_le hle, O3.base_le hle, O4.base_le hle, B6⟩


end Go.Proofs.Ytabcnpcfknlmlaa
