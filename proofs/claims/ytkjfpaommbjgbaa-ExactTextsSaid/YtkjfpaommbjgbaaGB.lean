/- Merged texts: Mem, Words, Bytes, NatA, NatB, NatC, NatD, NatE, NatF, NatG, NatH, NatI, NatJ. -/
import Derived.Test.YtkjfpaommbjgbaaGA
import Derived.WalkKit
import Derived.Lib.Hide
import Derived.BigQuiet
import Derived.Deep.QuietTactic
import Derived.Deep.RegionWith
import Derived.Deep.Draws
import Derived.Maps.AppendAt
import Derived.Test.YtkjfpaommbjgbaaProg
import Derived.Test.YtkjfpaommbjgbaaShelf
namespace Go.Proofs.Ytkjfpaommbjgbaa
open Go.RowKit

/-- a slice (its address, its capacity) reads as the list l, and lies below block B; f: an element's cell -/
def RL {α : Type} (f : α → Value) (w : World) (B : Nat) (A : Option Addr) (c : Nat) (l : List α) : Prop :=
  l.length ≤ c ∧ l.length ≤ 35184372088832 ∧
  (0 < l.length → ∃ b off, A = some ⟨b, off, none⟩ ∧ b < B ∧ ∀ k x, l[k]? = some x → w.cell? ⟨b, off + k, none⟩ = some (f x))

/-- a slice of the call's own (blocks from base on) that holds the list l; e: the element's type -/
def OL (e : TypeId) {α : Type} (f : α → Value) (w : World) (base : Nat) (A : Option Addr) (c : Nat) (l : List α) : Prop :=
  w.ownsRow base e 1 (.slice A l.length c) l.length (l.map f) ∧ l.length ≤ 35184372088832

section
variable {α : Type} {f : α → Value} {e : TypeId} {w w' : World} {B B' base : Nat} {A : Option Addr} {c : Nat} {l : List α}
theorem RL.lc (h : RL f w B A c l) : l.length ≤ c := h.1
theorem RL.big (h : RL f w B A c l) : l.length ≤ 35184372088832 := h.2.1
theorem RL.nil (f : α → Value) (w : World) (B : Nat) (A : Option Addr) (c : Nat) : RL f w B A c [] := ⟨by simp, by simp, fun h => by simp at h⟩
theorem RL.below (h : RL f w B A c l) (hb : Below B w w') : RL f w' B A c l :=
  ⟨h.1, h.2.1, fun hn => by
    obtain ⟨b, off, e, hlt, hc⟩ := h.2.2 hn
    exact ⟨b, off, e, hlt, fun k x hk => (hb.cell (p := ⟨b, off + k, none⟩) hlt).trans (hc k x hk)⟩⟩
theorem RL.more (h : RL f w B A c l) (hB : B ≤ B') : RL f w B' A c l :=
  ⟨h.1, h.2.1, fun hn => by
    obtain ⟨b, off, e, hlt, hc⟩ := h.2.2 hn
    exact ⟨b, off, e, by omega, hc⟩⟩
theorem RL.step (h : RL f w B A c l) (hb : Below B w w') (hB : B ≤ B') : RL f w' B' A c l := (h.below hb).more hB
theorem RL.drewN (h : RL f w B A c l) (k : Nat) : RL f (w.drewN k) B A c l := h
theorem RL.take (h : RL f w B A c l) (k : Nat) : RL f w B A c (l.take k) := by
  refine ⟨by have := h.1; rw [List.length_take]; omega, by have := h.2.1; rw [List.length_take]; omega, fun hn => ?_⟩
  rw [List.length_take] at hn
  obtain ⟨b, off, e, hlt, hc⟩ := h.2.2 (by omega)
  refine ⟨b, off, e, hlt, fun j x hj => ?_⟩
  rw [List.getElem?_take] at hj
  split at hj
  · exact hc j x hj
  · cases hj
theorem RL.at_ (h : RL f w B A c l) (hn : 0 < l.length) : ∃ b off, A = some ⟨b, off, none⟩ ∧ b < B ∧ ∀ k x, l[k]? = some x → w.cell? ⟨b, off + k, none⟩ = some (f x) := h.2.2 hn

theorem OL.big (h : OL e f w base A c l) : l.length ≤ 35184372088832 := h.2
theorem OL.nil (e : TypeId) (f : α → Value) (w : World) (base : Nat) : OL e f w base none 0 ([] : List α) := ⟨by simpa using World.ownsRow_nil w base e 1, by simp⟩
theorem OL.form (h : OL e f w base A c l) : (A = none ∧ c = 0 ∧ l = []) ∨ ∃ g, A = some ⟨g, 0, none⟩ ∧ base ≤ g ∧ g < w.heap.size ∧ l.length ≤ c := by
  rcases h.1.2 with ⟨e, h0⟩ | ⟨g, cap, cur, e, hb, hh, hn, _⟩
  · simp only [Value.slice.injEq] at e
    exact .inl ⟨e.1, e.2.2, List.eq_nil_of_length_eq_zero h0⟩
  · simp only [Value.slice.injEq] at e
    obtain ⟨e1, e2, e3⟩ := e
    subst e3
    exact .inr ⟨g, e1, hb, (Array.getElem?_eq_some_iff.1 hh).1, hn⟩
theorem OL.lc (h : OL e f w base A c l) : l.length ≤ c := by
  rcases h.form with ⟨_, _, rfl⟩ | ⟨g, _, _, _, h⟩
  · simp
  · exact h
theorem OL.cell {g : Nat} (h : OL e f w base (some ⟨g, 0, none⟩) c l) {k : Nat} {x : α} (hk : l[k]? = some x) : w.cell? ⟨g, k, none⟩ = some (f x) := by
  have hlt : k < l.length := (List.getElem?_eq_some_iff.1 hk).1
  rw [h.1.cellAt k (by omega), List.getElem?_map, hk]; rfl
theorem OL.rl (h : OL e f w base A c l) : RL f w w.heap.size A c l := by
  refine ⟨h.lc, h.big, fun hn => ?_⟩
  rcases h.form with ⟨_, _, rfl⟩ | ⟨g, rfl, hb, hlt, _⟩
  · simp at hn
  · refine ⟨g, 0, rfl, hlt, fun k x hk => ?_⟩
    rw [Nat.zero_add]
    exact h.cell hk
theorem OL.base_le (h : OL e f w base A c l) (hb : B ≤ base) : OL e f w B A c l := by
  refine ⟨⟨h.1.1, ?_⟩, h.2⟩
  rcases h.1.2 with h2 | ⟨g, cap, cur, a, b, r⟩
  · exact .inl h2
  · exact .inr ⟨g, cap, cur, a, by omega, r⟩
theorem OL.kept (h : OL e f w base A c l) (hk : ∀ g, A = some ⟨g, 0, none⟩ → w'.heap[g]? = w.heap[g]?) : OL e f w' base A c l := by
  refine ⟨⟨h.1.1, ?_⟩, h.2⟩
  rcases h.1.2 with h2 | ⟨g, cap, cur, a, b, hh, r⟩
  · exact .inl h2
  · have ha : A = some ⟨g, 0, none⟩ := by simp only [Value.slice.injEq] at a; exact a.1
    exact .inr ⟨g, cap, cur, a, b, by rw [hk g ha]; exact hh, r⟩
theorem OL.lt {g : Nat} (h : OL e f w base (some ⟨g, 0, none⟩) c l) : base ≤ g ∧ g < w.heap.size := by
  rcases h.form with ⟨e, _⟩ | ⟨g', e, h1, h2, _⟩
  · cases e
  · simp only [Option.some.injEq, Addr.mk.injEq, and_true] at e
    subst e
    exact ⟨h1, h2⟩
theorem OL.below (h : OL e f w base A c l) (hb : Below B w w') (hB : w.heap.size ≤ B) : OL e f w' base A c l :=
  h.kept fun g hg => hb.block g (by subst hg; have := h.lt; omega)
theorem OL.grown {row : Option Nat} (h : OL e f w base A c l) (hg : w.grownBy w' row) (hne : ∀ g, A = some ⟨g, 0, none⟩ → row ≠ some g) : OL e f w' base A c l :=
  h.kept fun g ha => hg.block g (by subst ha; exact h.lt.2) (fun he => hne g ha he.symm)
theorem OL.alloc (h : OL e f w base A c l) (o : Obj) : OL e f (w.alloc o) base A c l := ⟨h.1.alloc o, h.2⟩
theorem OL.drew (h : OL e f w base A c l) : OL e f w.drew base A c l := h
theorem OL.drewN (h : OL e f w base A c l) (k : Nat) : OL e f (w.drewN k) base A c l := h
theorem OL.take (h : OL e f w base A c l) (k : Nat) : OL e f w base A c (l.take k) := by
  have hl : (l.take k).length = min k l.length := List.length_take
  refine ⟨⟨by rw [List.length_map]; omega, ?_⟩, by have := h.big; omega⟩
  rcases h.1.2 with ⟨e, h0⟩ | ⟨g, cap, cur, a, b, hh, hn, hcm, hcs, ht⟩
  · simp only [Value.slice.injEq] at e
    left
    refine ⟨?_, by omega⟩
    rw [e.1, e.2.2]; congr 1; omega
  · simp only [Value.slice.injEq] at a
    refine .inr ⟨g, cap, cur, by rw [a.1, a.2.2], b, hh, by omega, hcm, hcs, ?_⟩
    rw [List.map_take, ← ht, List.take_take]
    congr 1
    omega
theorem OL.frozen {g : Nat} (h : OL e f w base (some ⟨g, 0, none⟩) c l) (k : Nat) : w.frozen? ⟨g, k, none⟩ = false := h.1.frozenAt k
theorem OL.set {g : Nat} (h : OL e f w base (some ⟨g, 0, none⟩) c l) (k : Nat) (x : α) :
    OL e f (w.setCell ⟨g, k, none⟩ (f x)) base (some ⟨g, 0, none⟩) c (l.set k x) := by
  have h1 := (h.1.stored k (f x)).1
  refine ⟨?_, by rw [List.length_set]; exact h.big⟩
  rw [List.map_set, List.length_set]
  exact h1
theorem OL.far (h : OL e f w base A c l) {p : Addr} (hp : ∀ g, A = some ⟨g, 0, none⟩ → g ≠ p.block) (u : Value) : OL e f (w.setCell p u) base A c l :=
  h.kept fun g hg => Below.heap_setCell _ _ _ _ (hp g hg)
end

theorem bdN {B : Nat} {a w : World} (h : Below B a w) (n : Nat) : Below B a (w.drewN n) := h.trans ⟨rfl, rfl, rfl, Nat.le_refl _, fun _ _ => rfl⟩
theorem quiet_left {P : Program} {f : FuncId} {args : Array Value} {w : World} {n : Nat} {v : Value}
    (h : Calls P f args (w.drewN n) fun e w' => e = .returned v ∧ w.drewN n = w') : Calls P f args (w.drewN n) fun e w'' => e = .returned v ∧ ∃ m, w'' = w.drewN m :=
  h.mono fun _ _ ⟨he, hm⟩ => ⟨he, n, hm.symm⟩
theorem quiet_some {P : Program} {f : FuncId} {args : Array Value} {w : World} {n : Nat} {v : Value}
    (h : Calls P f args (w.drewN n) fun e w' => e = .returned v ∧ ∃ m, w' = (w.drewN n).drewN m) : Calls P f args (w.drewN n) fun e w'' => e = .returned v ∧ ∃ m, w'' = w.drewN m :=
  h.mono fun _ _ ⟨he, m, hm⟩ => ⟨he, n + m, by rw [hm, World.drewN_drewN]⟩

/-- make([]T, n), an element's cells one -/
theorem wp_make {P : Program} (w : World) {ops : Array Oper} {rest : List Oper} {o : Oper} {a : Act} {Q : Exit → Act → World → Prop}
    (T e : TypeId) {α : Type} (f : α → Value) (x0 : α) (by_ : Nat) (hu : P.underlying T = some (.slice e)) (hi : (P.info? e).map (fun i => (i.zero, i.size, i.bytes)) = some (some (f x0), 1, by_)) (h1 : (f x0).cells = #[f x0])
    (hg : o.guard = none) (x c : Operand) (hop : o.op = Op.makeSlice T x c)
    (kl kc : IntKind) (L C : Int) (n : Nat) (hl : a.eval x = .int kl L) (hc : a.eval c = .int kc C) (hL : L = (n : Int)) (hC : C = (n : Int)) (hn : n ≤ 35184372088832) (hby : by_ * n ≤ 281474976710656)
    (hK : ∀ w', OL e f w' w.heap.size (some ⟨w.heap.size, 0, none⟩) n (List.replicate n x0) → w.grownBy w' none → w.heap.size + 1 ≤ w'.heap.size → wpList P ops Q rest (a.put o.dst (.slice (some ⟨w.heap.size, 0, none⟩) n n)) w') :
    wpList P ops Q (o :: rest) a w := by
  obtain ⟨i, hi, h0, hi1, h2⟩ := info_parts hi
  refine wpList_make_full w hg x c T hop w.heap.size e i (f x0) 1 hu hi h0 hi1 kl kc L C n hl hc hL hC (by rw [h2]; exact hby) (by unfold maxLen; omega) (Nat.le_refl _) ?_
  intro w' hown hgr
  have e2 : (madeCells (f x0).cells (n * 1)).toList = (List.replicate n x0).map f := by
    rw [h1, Nat.mul_one]
    simp only [madeCells]
    apply List.ext_getElem
    · simp
    · intro k hk1 hk2
      simp [Nat.mod_one]
  rw [e2] at hown
  have hO : OL e f w' w.heap.size (some ⟨w.heap.size, 0, none⟩) n (List.replicate n x0) := ⟨by simpa using hown, by simpa using hn⟩
  exact hK w' hO hgr hO.lt.2

theorem run_append_nil' {P : Program} (w : World) {base : Nat} {T ty e : TypeId} {i : TypeInfo} (ht : P.underlying T = some (.slice e)) (hi : P.info? e = some i)
    {v : Value} {n : Nat} {xs : List Value} (hown : w.ownsRow base e 1 v n xs) (ad : Option Addr) (d : Nat) : (Builtin.append_ #[T, T] ty #[v, .slice ad 0 d]).run P w = .ok v w := by
  cases ad with
  | none =>
    rcases hown.2 with ⟨rfl, rfl⟩ | ⟨g, cap, cur, rfl, _, _, hnc, _⟩
    · simp [Builtin.append_, run_underlying ht, sizeOf, typeInfo, hi, Builtin.lenOf, Builtin.firstCells]
    · simp [Builtin.append_, run_underlying ht, sizeOf, typeInfo, hi, Builtin.lenOf, Builtin.firstCells, hnc, storeCells]
  | some ad =>
    rcases hown.2 with ⟨rfl, rfl⟩ | ⟨g, cap, cur, rfl, _, _, hnc, _⟩
    · simp [Builtin.append_, run_underlying ht, sizeOf, typeInfo, hi, Builtin.lenOf, Builtin.firstCells, loadCells, loadCellsFrom]
    · simp [Builtin.append_, run_underlying ht, sizeOf, typeInfo, hi, Builtin.lenOf, Builtin.firstCells, hnc, storeCells, loadCells, loadCellsFrom]

/-- append(v, r...): behind a row of the call's own (nil too) -/
theorem wp_app {P : Program} (w : World) {ops : Array Oper} {rest : List Oper} {o : Oper} {a : Act} {Q : Exit → Act → World → Prop}
    (T e : TypeId) {α : Type} (f : α → Value) (x0 : α) (by_ : Nat) (hu : P.underlying T = some (.slice e)) (hi : (P.info? e).map (fun i => (i.zero, i.size, i.bytes)) = some (some (f x0), 1, by_)) (h1 : ∀ x, (f x).cells = #[f x] ∧ (f x).oneCell' = true)
    (hg : o.guard = none) (s x : Operand) (hop : o.op = Op.call { callee := Callee.builtin Builtin.append, args := #[s, x], argTypes := #[T, T] })
    (base : Nat) (A : Option Addr) (c n : Nat) (l : List α) (hs : a.eval s = .slice A n c) (hn : n = l.length) (hown : OL e f w base A c l)
    (D : Option Addr) (d m : Nat) (r : List α) (hx : a.eval x = .slice D m d) (hm : m = r.length) (Br : Nat) (hr : RL f w Br D d r)
    (hlen : l.length + r.length ≤ 35184372088832) (hby : (l.length + r.length) * by_ ≤ 140737488355328) (hbase : base ≤ w.heap.size)
    (hK : ∀ A' c' w', OL e f w' base A' c' (l ++ r) → w.grownBy w' (Value.slice A n c).ownBlock → (∀ g, A' = some ⟨g, 0, none⟩ → g < w.heap.size → A = some ⟨g, 0, none⟩) →
      wpList P ops Q rest (a.put o.dst (.slice A' (l ++ r).length c')) w') :
    wpList P ops Q (o :: rest) a w := by
  obtain ⟨i, hi, h0, hi1, h2⟩ := info_parts hi
  subst hn hm
  refine wpList_plain hg fun K hK' => ?_
  have key : ∃ v' w', (Builtin.append_ #[T, T] o.type #[.slice A l.length c, .slice D r.length d]).run P w = .ok v' w' ∧ w'.ownsRow base e 1 v' (l.length + r.length) (l.map f ++ r.map f) ∧ w.grownBy w' (Value.slice A l.length c).ownBlock ∧ (v'.ownBlock = (Value.slice A l.length c).ownBlock ∨ v'.ownBlock = some w.heap.size) := by
    by_cases hr0 : r.length = 0
    · have hrn : r = [] := List.eq_nil_of_length_eq_zero hr0
      subst hrn
      exact ⟨_, w, run_append_nil' w hu hi hown.1 D d, by simpa using hown.1, World.grownBy.refl w _, .inl rfl⟩
    · obtain ⟨b, off, rfl, _, hc⟩ := hr.2.2 (by omega)
      obtain ⟨v', w', hrun, q1, q2, _, q4⟩ := run_append_own_at (P := P) w base T o.type e i (f x0) 1 by_ hu hi h0 hi1 h2 (by rw [(h1 x0).1]; rfl) (by omega) (.slice A l.length c) l.length (l.map f) hown.1 ⟨b, off, none⟩ r.length d (r.map f) (by simp)
        (by
          intro j u hj
          rw [List.getElem?_map] at hj
          obtain ⟨y, hy, rfl⟩ := Option.map_eq_some_iff.1 hj
          rw [Addr.add_lit]
          exact hc j y hy)
        (by
          intro u hu
          obtain ⟨y, _, rfl⟩ := List.mem_map.1 hu
          exact (h1 y).2)
        (by unfold maxLen; omega) hby hbase
      exact ⟨v', w', hrun, q1, q2, q4⟩
  obtain ⟨v', w', hrun, q1, q2, q4⟩ := key
  unfold Oper.wp execOp
  simp only [hop, resolve, invoke, builtin, Sem.run_bind, Sem.run_pure, Result.andThen_ok, List.map_toArray, List.map_cons, List.map_nil, hs, hx, hrun]
  have hlen2 : (l ++ r).length = l.length + r.length := List.length_append
  rcases q1.2 with ⟨rfl, hz⟩ | ⟨g, cap, cur, rfl, a1, a2, a3, a4, a5, a6⟩
  · have hO : OL e f w' base none 0 (l ++ r) := ⟨by rw [hlen2, List.map_append, hz]; rw [hz] at q1; exact q1, by omega⟩
    have := hK none 0 w' hO q2 (by intro g hg; cases hg)
    rw [hlen2, hz] at this
    exact hK' _ _ this
  · have hO : OL e f w' base (some ⟨g, 0, none⟩) cap (l ++ r) := ⟨by rw [hlen2, List.map_append]; exact q1, by omega⟩
    have := hK (some ⟨g, 0, none⟩) cap w' hO q2 (by
      intro g' hg' hlt
      simp only [Option.some.injEq, Addr.mk.injEq, and_true] at hg'
      subst hg'
      rcases q4 with q | q
      · rcases hown.form with ⟨rfl, _⟩ | ⟨g2, rfl, _⟩
        · simp [Value.ownBlock] at q
        · simp [Value.ownBlock] at q; subst q; rfl
      · simp [Value.ownBlock] at q; omega)
    rw [hlen2] at this
    exact hK' _ _ this
end Go.Proofs.Ytkjfpaommbjgbaa
namespace Go.Proofs.Ytkjfpaommbjgbaa
open Go.RowKit

/-- a word's cell -/
def fw (x : Nat) : Value := .int .u32 (x : Int)
def RW (w : World) (B : Nat) (A : Option Addr) (c : Nat) (l : List Nat) : Prop := RL fw w B A c l ∧ B32 l
def OW (w : World) (base : Nat) (A : Option Addr) (c : Nat) (l : List Nat) : Prop := OL 52 fw w base A c l ∧ B32 l

theorem infoW : (Try.prog.info? 52).map (fun i => (i.zero, i.size, i.bytes)) = some (some (fw 0), 1, 4) := by kernel_rfl

section
variable {w w' : World} {B B' base : Nat} {A : Option Addr} {c : Nat} {l : List Nat}
theorem RW.lc (h : RW w B A c l) : l.length ≤ c := h.1.lc
theorem RW.big (h : RW w B A c l) : l.length ≤ 35184372088832 := h.1.big
theorem RW.b32 (h : RW w B A c l) : B32 l := h.2
theorem RW.nil (w : World) (B : Nat) (A : Option Addr) (c : Nat) : RW w B A c [] := ⟨RL.nil .., B32_nil⟩
theorem RW.below (h : RW w B A c l) (hb : Below B w w') : RW w' B A c l := ⟨h.1.below hb, h.2⟩
theorem RW.more (h : RW w B A c l) (hB : B ≤ B') : RW w B' A c l := ⟨h.1.more hB, h.2⟩
theorem RW.step (h : RW w B A c l) (hb : Below B w w') (hB : B ≤ B') : RW w' B' A c l := ⟨h.1.step hb hB, h.2⟩
theorem RW.drewN (h : RW w B A c l) (k : Nat) : RW (w.drewN k) B A c l := h
theorem RW.take (h : RW w B A c l) (k : Nat) : RW w B A c (l.take k) := ⟨h.1.take k, B32_take h.2 k⟩
theorem RW.at_ (h : RW w B A c l) (hn : 0 < l.length) : ∃ b off, A = some ⟨b, off, none⟩ ∧ b < B ∧ ∀ k, k < l.length → w.cell? ⟨b, off + k, none⟩ = some (.int .u32 (wd l k)) := by
  obtain ⟨b, off, e, hb, hc⟩ := h.1.at_ hn
  exact ⟨b, off, e, hb, fun k hk => hc k _ (wd_get? hk)⟩
theorem OW.b32 (h : OW w base A c l) : B32 l := h.2
theorem OW.big (h : OW w base A c l) : l.length ≤ 35184372088832 := h.1.big
theorem OW.lc (h : OW w base A c l) : l.length ≤ c := h.1.lc
theorem OW.nil (w : World) (base : Nat) : OW w base none 0 [] := ⟨OL.nil .., B32_nil⟩
theorem OW.form (h : OW w base A c l) : (A = none ∧ c = 0 ∧ l = []) ∨ ∃ g, A = some ⟨g, 0, none⟩ ∧ base ≤ g ∧ g < w.heap.size ∧ l.length ≤ c := h.1.form
theorem OW.rw (h : OW w base A c l) : RW w w.heap.size A c l := ⟨h.1.rl, h.2⟩
theorem OW.base_le (h : OW w base A c l) (hb : B ≤ base) : OW w B A c l := ⟨h.1.base_le hb, h.2⟩
theorem OW.lt {g : Nat} (h : OW w base (some ⟨g, 0, none⟩) c l) : base ≤ g ∧ g < w.heap.size := h.1.lt
theorem OW.below (h : OW w base A c l) (hb : Below B w w') (hB : w.heap.size ≤ B) : OW w' base A c l := ⟨h.1.below hb hB, h.2⟩
theorem OW.grown {row : Option Nat} (h : OW w base A c l) (hg : w.grownBy w' row) (hne : ∀ g, A = some ⟨g, 0, none⟩ → row ≠ some g) : OW w' base A c l := ⟨h.1.grown hg hne, h.2⟩
theorem OW.alloc (h : OW w base A c l) (o : Obj) : OW (w.alloc o) base A c l := ⟨h.1.alloc o, h.2⟩
theorem OW.drewN (h : OW w base A c l) (k : Nat) : OW (w.drewN k) base A c l := h
theorem OW.take (h : OW w base A c l) (k : Nat) : OW w base A c (l.take k) := ⟨h.1.take k, B32_take h.2 k⟩
theorem OW.cell {g : Nat} (h : OW w base (some ⟨g, 0, none⟩) c l) {k : Nat} (hk : k < l.length) : w.cell? ⟨g, k, none⟩ = some (.int .u32 (wd l k)) := h.1.cell (wd_get? hk)
theorem OW.frozen {g : Nat} (h : OW w base (some ⟨g, 0, none⟩) c l) (k : Nat) : w.frozen? ⟨g, k, none⟩ = false := h.1.frozen k
theorem OW.set {g : Nat} (h : OW w base (some ⟨g, 0, none⟩) c l) (k : Nat) {x : Nat} (hx : x < 4294967296) :
    OW (w.setCell ⟨g, k, none⟩ (.int .u32 x)) base (some ⟨g, 0, none⟩) c (l.set k x) := ⟨h.1.set k x, B32_set h.2 k hx⟩
theorem OW.far (h : OW w base A c l) {p : Addr} (hp : ∀ g, A = some ⟨g, 0, none⟩ → g ≠ p.block) (u : Value) : OW (w.setCell p u) base A c l := ⟨h.1.far hp u, h.2⟩
/-- a trimmed list -/
theorem RW.norm (h : RW w B A c l) : RW w B A c (digs (val l)) := by rw [← trim_digs h.2]; exact h.take _
theorem OW.norm (h : OW w base A c l) : OW w base A c (digs (val l)) := by rw [← trim_digs h.2]; exact h.take _
end

theorem wp_makeW (w : World) {ops : Array Oper} {rest : List Oper} {o : Oper} {a : Act} {Q : Exit → Act → World → Prop}
    (hg : o.guard = none) (x c : Operand) (hop : o.op = Op.makeSlice 22 x c)
    (kl kc : IntKind) (L C : Int) (n : Nat) (hl : a.eval x = .int kl L) (hc : a.eval c = .int kc C) (hL : L = (n : Int)) (hC : C = (n : Int)) (hn : n ≤ 35184372088832)
    (hK : ∀ w', OW w' w.heap.size (some ⟨w.heap.size, 0, none⟩) n (List.replicate n 0) → Below w.heap.size w w' → w.heap.size + 1 ≤ w'.heap.size → wpList Try.prog ops Q rest (a.put o.dst (.slice (some ⟨w.heap.size, 0, none⟩) n n)) w') :
    wpList Try.prog ops Q (o :: rest) a w :=
  wp_make w 22 52 fw 0 4 Try.underlying22 infoW rfl hg x c hop kl kc L C n hl hc hL hC hn (by omega)
    fun w' h1 h2 h3 => hK w' ⟨h1, B32_replicate n⟩ ((Below.refl _ _).grown h2 (Nat.le_refl _) (by intro k hk; cases hk)) h3

theorem wp_appW (w : World) {ops : Array Oper} {rest : List Oper} {o : Oper} {a : Act} {Q : Exit → Act → World → Prop}
    (hg : o.guard = none) (s x : Operand) (hop : o.op = Op.call { callee := Callee.builtin Builtin.append, args := #[s, x], argTypes := #[22, 22] })
    (base : Nat) (A : Option Addr) (c n : Nat) (l : List Nat) (hs : a.eval s = .slice A n c) (hn : n = l.length) (hown : OW w base A c l)
    (D : Option Addr) (d m : Nat) (r : List Nat) (hx : a.eval x = .slice D m d) (hm : m = r.length) (Br : Nat) (hr : RW w Br D d r)
    (hlen : l.length + r.length ≤ 35184372088832) (hbase : base ≤ w.heap.size)
    (hK : ∀ A' c' w', OW w' base A' c' (l ++ r) → w.grownBy w' (Value.slice A n c).ownBlock → Below base w w' → wpList Try.prog ops Q rest (a.put o.dst (.slice A' (l ++ r).length c')) w') :
    wpList Try.prog ops Q (o :: rest) a w :=
  wp_app w 22 52 fw 0 4 Try.underlying22 infoW (fun _ => ⟨rfl, rfl⟩) hg s x hop base A c n l hs hn hown.1 D d m r hx hm Br hr.1 hlen (by omega) hbase
    fun A' c' w' h1 h2 _ => hK A' c' w' ⟨h1, B32_append hown.2 hr.2⟩ h2 ((Below.refl _ _).grown h2 hbase (by
      intro k hk
      rcases hown.form with ⟨rfl, _⟩ | ⟨g, rfl, hb, _⟩
      · simp [Value.ownBlock] at hk
      · simp [Value.ownBlock] at hk; omega))

/-- one word in a new block, as append's source -/
theorem RW.one (w : World) (t : TypeId) {x : Nat} (hx : x < 4294967296) : RW (w.alloc (.cells #[.int .u32 (x : Int)] t)) (w.heap.size + 1) (some ⟨w.heap.size, 0, none⟩) 1 [x] := by
  refine ⟨⟨by simp, by simp, fun _ => ⟨_, _, rfl, by omega, fun k y hk => ?_⟩⟩, B32_cons hx B32_nil⟩
  match k, hk with
  | 0, hk => simp at hk; subst hk; have := cell_one_new w (.int .u32 (x : Int)) t 0 _ rfl; rwa [Addr.add_lit] at this
theorem RW.two (w : World) (t : TypeId) {x y : Nat} (hx : x < 4294967296) (hy : y < 4294967296) : RW (w.alloc (.cells #[.int .u32 (x : Int), .int .u32 (y : Int)] t)) (w.heap.size + 1) (some ⟨w.heap.size, 0, none⟩) 2 [x, y] := by
  refine ⟨⟨by simp, by simp, fun _ => ⟨_, _, rfl, by omega, fun k z hk => ?_⟩⟩, B32_cons hx (B32_cons hy B32_nil)⟩
  have h0 := heap_alloc_new w (.cells #[.int .u32 (x : Int), .int .u32 (y : Int)] t)
  rw [cell_of_row _ _ _ _ _ _ h0, Nat.zero_add]
  match k, hk with
  | 0, hk => simp at hk; subst hk; rfl
  | 1, hk => simp at hk; subst hk; rfl
/-- a literal of words is the call's own -/
theorem OW.lit (w : World) (l : List Nat) (hl : l.length ≤ 1000) (hb : B32 l) : OW (w.alloc (.cells (l.map fw).toArray 52)) w.heap.size (some ⟨w.heap.size, 0, none⟩) l.length l := by
  refine ⟨⟨?_, by omega⟩, hb⟩
  have h := World.ownsRow_lit (e := 52) (size := 1) w (l.map fw).toArray l.length (Nat.le_refl _) (by unfold maxLen; omega) (by simp)
  simpa using h
theorem OW.empty (w : World) : OW (w.alloc (.cells #[] 52)) w.heap.size (some ⟨w.heap.size, 0, none⟩) 0 [] := OW.lit w [] (by simp) B32_nil
end Go.Proofs.Ytkjfpaommbjgbaa
namespace Go.Proofs.Ytkjfpaommbjgbaa
open Go.RowKit

/-- a byte's cell -/
def f8 (x : UInt8) : Value := .int .u8 (x.toNat : Int)
def RB (w : World) (B : Nat) (A : Option Addr) (c : Nat) (l : List UInt8) : Prop := RL f8 w B A c l
def OB (w : World) (base : Nat) (A : Option Addr) (c : Nat) (l : List UInt8) : Prop := OL 5 f8 w base A c l
theorem infoB : (Try.prog.info? 5).map (fun i => (i.zero, i.size, i.bytes)) = some (some (f8 0), 1, 1) := by kernel_rfl
theorem b_get? {l : List UInt8} {k : Nat} (h : k < l.length) : l[k]? = some (l.getD k 0) := by rw [List.getElem?_eq_getElem h, List.getD_eq_getElem?_getD, List.getElem?_eq_getElem h]; rfl

theorem wp_appB (w : World) {ops : Array Oper} {rest : List Oper} {o : Oper} {a : Act} {Q : Exit → Act → World → Prop}
    (hg : o.guard = none) (s x : Operand) (hop : o.op = Op.call { callee := Callee.builtin Builtin.append, args := #[s, x], argTypes := #[88, 88] })
    (base : Nat) (A : Option Addr) (c n : Nat) (l : List UInt8) (hs : a.eval s = .slice A n c) (hn : n = l.length) (hown : OB w base A c l)
    (D : Option Addr) (d m : Nat) (r : List UInt8) (hx : a.eval x = .slice D m d) (hm : m = r.length) (Br : Nat) (hr : RB w Br D d r)
    (hlen : l.length + r.length ≤ 35184372088832) (hbase : base ≤ w.heap.size)
    (hK : ∀ A' c' w', OB w' base A' c' (l ++ r) → w.grownBy w' (Value.slice A n c).ownBlock → Below base w w' → wpList Try.prog ops Q rest (a.put o.dst (.slice A' (l ++ r).length c')) w') :
    wpList Try.prog ops Q (o :: rest) a w :=
  wp_app w 88 5 f8 0 1 Try.underlying88 infoB (fun _ => ⟨rfl, rfl⟩) hg s x hop base A c n l hs hn hown D d m r hx hm Br hr hlen (by omega) hbase
    fun A' c' w' h1 h2 _ => hK A' c' w' h1 h2 ((Below.refl _ _).grown h2 hbase (by
      intro k hk
      rcases OL.form hown with ⟨rfl, _⟩ | ⟨g, rfl, hb, _⟩
      · simp [Value.ownBlock] at hk
      · simp [Value.ownBlock] at hk; omega))
/-- one byte in a new block, as append's source -/
theorem RB.one (w : World) (t : TypeId) (x : UInt8) : RB (w.alloc (.cells #[.int .u8 (x.toNat : Int)] t)) (w.heap.size + 1) (some ⟨w.heap.size, 0, none⟩) 1 [x] := by
  refine ⟨by simp, by simp, fun _ => ⟨_, _, rfl, by omega, fun k y hk => ?_⟩⟩
  match k, hk with
  | 0, hk => simp at hk; subst hk; have := cell_one_new w (.int .u8 (x.toNat : Int)) t 0 _ rfl; rwa [Addr.add_lit] at this
theorem OB.empty (w : World) : OB (w.alloc (.cells #[] 5)) w.heap.size (some ⟨w.heap.size, 0, none⟩) 0 [] := by
  refine ⟨?_, by simp⟩
  have h := World.ownsRow_lit (e := 5) (size := 1) w #[] 0 (Nat.le_refl _) (by unfold maxLen; omega) (by simp)
  simpa using h
/-- string(b) -/
theorem conv_bytes {w : World} {B : Nat} {A : Option Addr} {c : Nat} {l : List UInt8} (h : RB w B A c l) (hA : ∃ b off, A = some ⟨b, off, none⟩) :
    (convert 88 9 (.slice A l.length c)).run Try.prog w = .ok (.string ⟨l.toArray⟩) w := by
  obtain ⟨b, off, rfl⟩ := hA
  refine run_convert_bytes_back w 88 9 5 ⟨b, off, none⟩ c l Try.underlying88 Try.underlying5 Try.underlying9 fun j hj => ?_
  obtain ⟨b', off', e, _, hc⟩ := h.at_ (by omega)
  simp only [Option.some.injEq, Addr.mk.injEq, and_true] at e
  obtain ⟨rfl, rfl⟩ := e
  rw [Addr.add_lit]
  exact hc j _ (List.getElem?_eq_getElem hj)

/-- how long a slice is -/
def slen : Value → Nat | .slice _ n _ => n | _ => 0

def bg (l : List UInt8) (k : Nat) : UInt8 := l.getD k 0
theorem bg_get? {l : List UInt8} {k : Nat} (h : k < l.length) : l[k]? = some (bg l k) := b_get? h
theorem bg_set_eq {l : List UInt8} {k : Nat} (x : UInt8) (h : k < l.length) : bg (l.set k x) k = x := by
  unfold bg; simp [List.getD_eq_getElem?_getD, h]
theorem bg_set_ne {l : List UInt8} {k j : Nat} (x : UInt8) (h : k ≠ j) : bg (l.set k x) j = bg l j := by
  unfold bg; simp [List.getD_eq_getElem?_getD, h]
theorem bg_ext {a b : List UInt8} (hl : a.length = b.length) (h : ∀ k, k < a.length → bg a k = bg b k) : a = b := by
  refine List.ext_getElem? fun k => ?_
  by_cases hk : k < a.length
  · rw [bg_get? hk, bg_get? (by omega), h k hk]
  · rw [List.getElem?_eq_none (by omega), List.getElem?_eq_none (by omega)]
theorem bg_rev {l : List UInt8} {k : Nat} (h : k < l.length) : bg l.reverse k = bg l (l.length - 1 - k) := by
  have h1 := bg_get? (l := l.reverse) (k := k) (by rw [List.length_reverse]; exact h)
  rw [List.getElem?_reverse h, bg_get? (by omega)] at h1
  exact (Option.some.inj h1).symm
/-- turned round as far as k places from both ends -/
def Rvd (o l : List UInt8) (k : Nat) : Prop :=
  l.length = o.length ∧ ∀ t, t < o.length → bg l t = if t < k ∨ o.length ≤ t + k then bg o (o.length - 1 - t) else bg o t
theorem Rvd_step {o l : List UInt8} {k j : Nat} (h : Rvd o l k) (hj : j = o.length - 1 - k) (hk : k < j) : Rvd o ((l.set k (bg l j)).set j (bg l k)) (k + 1) := by
  refine ⟨by rw [List.length_set, List.length_set]; exact h.1, fun t ht => ?_⟩
  have hl := h.1
  by_cases h1 : j = t
  · subst h1
    rw [bg_set_eq _ (by rw [List.length_set]; omega), h.2 k (by omega), if_neg (by omega), if_pos (by omega)]
    congr 1; omega
  · rw [bg_set_ne _ h1]
    by_cases h2 : k = t
    · subst h2
      rw [bg_set_eq _ (by omega), h.2 j (by omega), if_neg (by omega), if_pos (by omega)]
      congr 1
    · rw [bg_set_ne _ h2, h.2 t ht]
      by_cases h3 : t < k ∨ o.length ≤ t + k
      · rw [if_pos h3, if_pos (by omega)]
      · rw [if_neg h3, if_neg (by omega)]
theorem Rvd_end {o l : List UInt8} {k : Nat} (h : Rvd o l k) (hk : ¬ ((k : Int) < (o.length : Int) - 1 - k)) : l = o.reverse := by
  refine bg_ext (by rw [List.length_reverse]; exact h.1) fun t ht => ?_
  have hl := h.1
  rw [bg_rev (by omega), h.2 t (by omega)]
  split
  · rfl
  · congr 1; omega
set_option maxHeartbeats 1000000 in
theorem reverse_any (A : Option Addr) (c n : Nat) (o : List UInt8) (w : World) (base : Nat) (hn : n = o.length) (h : OB w base A c o) :
    Calls Try.prog 67 #[.slice A n c] w fun e w' => e = .returned (.tuple #[]) ∧ OB w' base A c o.reverse ∧ Below base w w' := by
  subst hn
  have hbig := OL.big h
  go_enter Try.func67, Try.ntmps67
  go_wp2
  go_loopw [2, 3] (fun iv jv wr => ∃ (k : Nat) (l : List UInt8), iv = .int .i64 (k : Int) ∧ jv = .int .i64 ((o.length : Int) - 1 - k) ∧ k ≤ o.length ∧ OB wr base A c l ∧ Hid (Rvd o l k) ∧ Below base w wr) (fun iv _ _ => (o.length - intOf iv).toNat)
  case atStart => exact ⟨0, o, rfl, by simp, Nat.zero_le _, h, ⟨rfl, fun t ht => by rw [if_neg (by omega)]⟩, Below.refl _ _⟩
  case round =>
    obtain ⟨k, l, rfl, rfl, hk, hO, hR, hbel⟩ := hrel
    by_cases h0 : (k : Int) < (o.length : Int) - 1 - k
    · have hl := hR.out.1
      have HL := Lib.hid hl
      rcases OL.form hO with ⟨_, _, he⟩ | ⟨g, rfl, hg1, hg2, _⟩
      · rw [he] at hl; simp at hl; omega
      · obtain ⟨j, hj⟩ : ∃ j, j = o.length - 1 - k := ⟨_, rfl⟩
        have e0 : (o.length : Int) - 1 - (k : Int) = (j : Int) := by omega
        have hkj : k < j := by omega
        have hjl : j < o.length := by omega
        have hck := OL.cell hO (bg_get? (l := l) (k := k) (by omega))
        have hcj := OL.cell hO (bg_get? (l := l) (k := j) (by omega))
        have hfk := OL.frozen hO k
        have hfj := OL.frozen hO j
        have hst := Lib.hid (Rvd_step hR.out hj hkj)
        have hset := OL.set (OL.set hO k (bg l j)) j (bg l k)
        have hbel2 := (hbel.setCell (p := ⟨g, k, none⟩) hg1 (f8 (bg l j))).setCell (p := ⟨g, j, none⟩) hg1 (f8 (bg l k))
        have HJ := Lib.hid hj
        have E0 := Lib.hid e0
        clear hl hj
        simp only [f8] at hck hcj
        go_wp2
        go_region
        go_wp2
        go_roundw
        case rel => exact ⟨k + 1, _, by go_num, by go_num, by omega, hset, hst, Below.drew hbel2⟩
        case measure => simp [intOf]; omega
    · have hfin := Lib.hid (Rvd_end hR.out h0)
      go_wp2
      go_end0
      refine ⟨rfl, ?_, hbel⟩
      rw [← hfin.out]; exact hO
end Go.Proofs.Ytkjfpaommbjgbaa
namespace Go.Proofs.Ytkjfpaommbjgbaa
open Go.RowKit

theorem ret_int {k : IntKind} {a b : Int} (h : a = b) : Ending.returned (.int k a) = .returned (.int k b) := by rw [h]
theorem ret_slice {A : Option Addr} {c a b : Nat} (h : a = b) : Ending.returned (.slice A a c) = .returned (.slice A b c) := by rw [h]
theorem ret_bool {a b : Bool} (h : a = b) : Ending.returned (.bool a) = .returned (.bool b) := by rw [h]

theorem trim_any (A : Option Addr) (c n : Nat) (l : List Nat) (w : World) (hn : n = l.length) (h : RW w w.heap.size A c l) :
    Calls Try.prog 63 #[.slice A n c] w fun e w' => e = .returned (.int .i64 (trimN l l.length)) ∧ w = w' := by
  subst hn
  have hbig := h.big
  go_enter Try.func63, Try.ntmps63
  go_wp2
  go_loop [3] (fun n => ∃ k : Nat, k ≤ l.length ∧ n = .int .i64 k ∧ Hid (trimN l k = trimN l l.length)) (fun i => (intOf i).toNat)
  case atStart => exact ⟨l.length, Nat.le_refl _, rfl, rfl⟩
  case round =>
    obtain ⟨k, hk, rfl, hk2⟩ := hrel
    by_cases h0 : 0 < k
    · obtain ⟨b, off, rfl, hb, hx⟩ := h.at_ (by omega)
      have hxk := hx (k-1) (by omega)
      clear h hx
      obtain ⟨j, rfl⟩ : ∃ j, k = j+1 := ⟨k-1, by omega⟩
      rw [Nat.add_sub_cancel] at hxk
      by_cases hz : wd l j = 0
      · have hz' : ((wd l j : Int) == 0) = true := by simp [hz]
        have HZ := Lib.hid hz; clear hz
        go_wp2
        go_round
        case rel => exact ⟨j, by omega, by go_num, by have h2 := hk2.out; have h3 := HZ.out; simp only [trimN, h3, if_true] at h2; exact h2⟩
        case measure => simp [intOf]
      · have hz' : ((wd l j : Int) == 0) = false := by simp [hz]
        go_wp2
        go_ret
        refine ⟨?_, rfl⟩
        rw [← hk2.out]
        exact ret_int (by simp only [trimN, hz, if_false]; rfl)
    · obtain rfl : k = 0 := by omega
      go_wp2
      go_ret
      refine ⟨?_, rfl⟩
      rw [← hk2.out]
      rfl

theorem norm_any (A : Option Addr) (c n : Nat) (l : List Nat) (w : World) (hn : n = l.length) (h : RW w w.heap.size A c l) :
    Calls Try.prog 62 #[.slice A n c] w fun e w' => e = .returned (.slice A (digs (val l)).length c) ∧ w = w' := by
  have ht := trim_any A c n l w hn h
  subst hn
  have hbig := h.big
  have hlc := h.lc
  have htl := trimN_le l l.length
  have HT : Hid (trimN l l.length = (digs (val l)).length) := trim_len h.b32
  go_enter Try.func62, Try.ntmps62
  go_wp2_with (go_at_call 63; refine ht.mono ?_; rintro e w' ⟨rfl, rfl⟩)
  go_ret
  exact ⟨by rw [HT.out]; rfl, rfl⟩

def soundB (l : List Nat) : Bool := decide (l.length ≤ 512 ∧ l = digs (val l))

theorem sound_any (A : Option Addr) (c n : Nat) (l : List Nat) (w : World) (hn : n = l.length) (h : RW w w.heap.size A c l) :
    Calls Try.prog 46 #[.slice A n c] w fun e w' => e = .returned (.bool (soundB l)) ∧ w = w' := by
  have ht := trim_any A c n l w hn h
  subst hn
  have hbig := h.big
  have htl := trimN_le l l.length
  have HT : Hid (trimN l l.length = l.length ↔ l = digs (val l)) := trim_full h.b32
  by_cases h5 : l.length ≤ 512
  · have h5' : decide ((l.length : Int) ≤ 512) = true := by simp; omega
    by_cases he : trimN l l.length = l.length
    · have he' : ((trimN l l.length : Int) == (l.length : Int)) = true := by simp; omega
      have HE := Lib.hid he; clear he
      go_enter Try.func46, Try.ntmps46
      go_wp2_with (go_at_call 63; refine ht.mono ?_; rintro e w' ⟨rfl, rfl⟩)
      go_ret
      refine ⟨ret_bool ?_, rfl⟩
      have := HT.out.1 HE.out
      simp [soundB, h5, ← this]
    · have he' : ((trimN l l.length : Int) == (l.length : Int)) = false := by simp; omega
      go_enter Try.func46, Try.ntmps46
      go_wp2_with (go_at_call 63; refine ht.mono ?_; rintro e w' ⟨rfl, rfl⟩)
      go_ret
      refine ⟨ret_bool ?_, rfl⟩
      have : ¬ l = digs (val l) := fun h => he (HT.out.2 h)
      simp [soundB, this]
  · have h5' : decide ((l.length : Int) ≤ 512) = false := by simp; omega
    go_enter Try.func46, Try.ntmps46
    go_wp2_with (go_at_call 63; refine ht.mono ?_; rintro e w' ⟨rfl, rfl⟩)
    go_ret
    refine ⟨ret_bool ?_, rfl⟩
    simp [soundB, h5]

def fS (t : Option Addr × Nat × List Nat) : Value := .slice t.1 t.2.2.length t.2.1
def chk (L : List (Option Addr × Nat × List Nat)) : Int := if L.all (fun t => soundB t.2.2) then 0 else 2

theorem check_any (A : Option Addr) (c n : Nat) (L : List (Option Addr × Nat × List Nat)) (w : World) (hn : n = L.length) (h : RL fS w w.heap.size A c L) (hL : ∀ t ∈ L, RW w w.heap.size t.1 t.2.1 t.2.2) :
    Calls Try.prog 65 #[.slice A n c] w fun e w' => e = .returned (.int .i64 (chk L)) ∧ w = w' := by
  subst hn
  have hbig := h.big
  go_enter Try.func65, Try.ntmps65
  go_wp2
  go_loop [7] (fun n => ∃ k : Nat, k ≤ L.length ∧ n = .int .i64 k ∧ Hid ((L.take k).all (fun t => soundB t.2.2) = true)) (fun i => L.length - (intOf i).toNat)
  case atStart => exact ⟨0, Nat.zero_le _, rfl, rfl⟩
  case round =>
    obtain ⟨k, hk, rfl, hk2⟩ := hrel
    by_cases h0 : k < L.length
    · obtain ⟨b, off, rfl, hb, hx⟩ := h.at_ (by omega)
      rcases ht : L[k] with ⟨A1, c1, l1⟩
      have hxk := hx k _ (List.getElem?_eq_getElem h0)
      have hr := hL _ (List.getElem_mem h0)
      rw [ht] at hxk hr
      have hs := sound_any A1 c1 l1.length l1 w rfl hr
      clear hr hx h
      simp only [fS] at hxk
      have HT := Lib.hid ht; clear ht
      cases hsb : soundB l1 with
      | true =>
        rw [hsb] at hs
        have HS := Lib.hid hsb; clear hsb
        go_wp2_with (go_at_call 46; refine hs.mono ?_; rintro e w' ⟨rfl, rfl⟩)
        go_round
        case rel => exact ⟨k + 1, by omega, by go_num, by show _ = _; rw [List.take_succ_eq_append_getElem h0, List.all_append, hk2.out, HT.out]; simp [HS.out]⟩
        case measure => simp [intOf]; omega
      | false =>
        rw [hsb] at hs
        have HS := Lib.hid hsb; clear hsb
        go_wp2_with (go_at_call 46; refine hs.mono ?_; rintro e w' ⟨rfl, rfl⟩)
        go_ret
        refine ⟨?_, rfl⟩
        have : L.all (fun t => soundB t.2.2) = false := by
          rw [List.all_eq_false]
          exact ⟨L[k], List.getElem_mem h0, by rw [HT.out]; simp [HS.out]⟩
        exact ret_int (by simp [chk, this])
    · obtain rfl : k = L.length := by omega
      go_wp2
      go_ret
      refine ⟨?_, rfl⟩
      have := hk2.out
      rw [List.take_length] at this
      exact ret_int (by simp [chk, this])
end Go.Proofs.Ytkjfpaommbjgbaa
namespace Go.Proofs.Ytkjfpaommbjgbaa
open Go.RowKit

/-- what the order of two lists of one length comes to, at the highest word that differs -/
theorem ord_top {a b : List Nat} (ha : B32 a) (hb : B32 b) {j : Nat} (hj : j < a.length) (hl : a.length = b.length) (hd : a.drop (j + 1) = b.drop (j + 1)) :
    (wd a j < wd b j → cmpN (val a) (val b) = -1) ∧ (wd b j < wd a j → cmpN (val a) (val b) = 1) :=
  ⟨fun h => cmpN_lt (top_lt ha (by omega) h hd.symm hj hl.symm), fun h => cmpN_gt (top_lt hb hj h hd (by omega) hl)⟩
theorem ord_step {a b : List Nat} {j : Nat} (hj : j < a.length) (hl : a.length = b.length) (hd : a.drop (j + 1) = b.drop (j + 1)) (h : wd a j = wd b j) : a.drop j = b.drop j := by
  rw [drop_wd hj, drop_wd (by omega : j < b.length), hd, h]

theorem drw {w : World} (a b : Nat) : ∃ q, (w.drewN a).drewN b = w.drewN q := ⟨_, World.drewN_drewN _ _ _⟩
theorem drw3 {w : World} (a b c : Nat) : ∃ q, ((w.drewN a).drewN b).drewN c = w.drewN q := ⟨_, by rw [World.drewN_drewN, World.drewN_drewN]⟩

set_option maxHeartbeats 1000000 in
theorem order_any (A D : Option Addr) (c d n m : Nat) (a b : List Nat) (w : World) (hn : n = a.length) (hm : m = b.length) (ha : RW w w.heap.size A c a) (hb : RW w w.heap.size D d b) (na : Nrm a) (nb : Nrm b) :
    Calls Try.prog 80 #[.slice A n c, .slice D m d] w fun e w' => e = .returned (.int .i64 (cmpN (val a) (val b))) ∧ ∃ q, w' = w.drewN q := by
  subst hn hm
  have hba := ha.big
  have hbb := hb.big
  have ba := ha.b32
  have bb := hb.b32
  by_cases hlen : a.length = b.length
  · have hl1 : ((a.length : Int) != (b.length : Int)) = false := by simp; omega
    have HL := Lib.hid hlen
    have hlt : ¬ a.length < b.length := by omega
    have hgt : ¬ b.length < a.length := by omega
    clear hlen
    go_enter Try.func80, Try.ntmps80
    go_wp2
    go_loopw [5] (fun i wr => ∃ k : Nat, k ≤ a.length ∧ i = .int .i64 ((k : Int) - 1) ∧ Hid (a.drop k = b.drop k) ∧ ∃ q, wr = w.drewN q) (fun i _ => (intOf i + 1).toNat)
    case atStart => exact ⟨a.length, Nat.le_refl _, rfl, by show _ = _; rw [List.drop_length, HL.out, List.drop_length], 0, rfl⟩
    case round =>
      obtain ⟨k, hk, rfl, hk2, q, rfl⟩ := hrel
      by_cases h0 : 0 < k
      · obtain ⟨b1, o1, rfl, _, hx⟩ := ha.at_ (by omega)
        obtain ⟨b2, o2, rfl, _, hy⟩ := hb.at_ (by omega)
        obtain ⟨j, rfl⟩ : ∃ j, k = j+1 := ⟨k-1, by omega⟩
        have hxk := hx j (by omega)
        have hyk := hy j (by omega)
        clear ha hb hx hy
        have hj1 : (0 : Int) ≤ ((j + 1 : Nat) : Int) - 1 := by omega
        have HO := Lib.hid (ord_top ba bb (by omega) HL.out hk2.out)
        rcases Nat.lt_trichotomy (wd a j) (wd b j) with h1 | h1 | h1
        · have t1 : decide ((wd a j : Int) < (wd b j : Int)) = true := by simp; omega
          have HR := Lib.hid (HO.out.1 h1)
          go_wp2
          go_quiet (fail)
          go_wp2
          go_ret
          exact ⟨by rw [HR.out]; rfl, drw _ _⟩
        · have t1 : decide (wd a j < wd b j) = false := by simp; omega
          have t2 : decide (wd b j < wd a j) = false := by simp; omega
          have HR := Lib.hid (ord_step (by omega) HL.out hk2.out h1)
          clear h1
          go_wp2
          go_quiet (fail)
          go_wp2
          go_quiet (fail)
          go_wp2
          go_roundw
          case rel => exact ⟨j, by omega, by go_num, HR, _, rfl⟩
          case measure => simp [intOf]
        · have t1 : decide (wd a j < wd b j) = false := by simp; omega
          have HR := Lib.hid (HO.out.2 h1)
          go_wp2
          go_quiet (fail)
          go_wp2
          go_quiet (fail)
          go_wp2
          go_ret
          exact ⟨by rw [HR.out]; rfl, drw3 _ _ _⟩
      · obtain rfl : k = 0 := by omega
        go_wp2
        go_ret
        refine ⟨?_, q, rfl⟩
        have h2 := hk2.out
        rw [List.drop_zero, List.drop_zero] at h2
        exact ret_int (by rw [h2, cmpN_self])
  · have hl1 : ((a.length : Int) != (b.length : Int)) = true := by simp; omega
    by_cases hlt : a.length < b.length
    · have HR := Lib.hid (cmpN_lt (len_lt ba nb hlt))
      go_enter Try.func80, Try.ntmps80
      go_wp2
      go_ret
      exact ⟨by rw [HR.out]; rfl, 0, rfl⟩
    · have HR := Lib.hid (cmpN_gt (len_lt bb na (by omega)))
      go_enter Try.func80, Try.ntmps80
      go_wp2
      go_ret
      exact ⟨by rw [HR.out]; rfl, 0, rfl⟩

theorem same_step {a b : List Nat} {j : Nat} (hj : j < a.length) (hl : a.length = b.length) (hd : a.take j = b.take j) (h : wd a j = wd b j) : a.take (j + 1) = b.take (j + 1) := by
  rw [take_succ_wd hj, take_succ_wd (by omega : j < b.length), hd, h]

set_option maxHeartbeats 1000000 in
theorem same_any (A D : Option Addr) (c d n m : Nat) (a b : List Nat) (w : World) (hn : n = a.length) (hm : m = b.length) (ha : RW w w.heap.size A c a) (hb : RW w w.heap.size D d b) :
    Calls Try.prog 45 #[.slice A n c, .slice D m d] w fun e w' => e = .returned (.bool (decide (a = b))) ∧ ∃ q, w' = w.drewN q := by
  subst hn hm
  have hba := ha.big
  have hbb := hb.big
  by_cases hlen : a.length = b.length
  · have hl1 : ((a.length : Int) != (b.length : Int)) = false := by simp; omega
    have HL := Lib.hid hlen
    have hlt : ¬ a.length < b.length := by omega
    have hgt : ¬ b.length < a.length := by omega
    clear hlen
    go_enter Try.func45, Try.ntmps45
    go_wp2
    go_loopw [5] (fun i wr => ∃ k : Nat, k ≤ a.length ∧ i = .int .i64 (k : Int) ∧ Hid (a.take k = b.take k) ∧ ∃ q, wr = w.drewN q) (fun i _ => (a.length - intOf i).toNat)
    case atStart => exact ⟨0, Nat.zero_le _, rfl, rfl, 0, rfl⟩
    case round =>
      obtain ⟨k, hk, rfl, hk2, q, rfl⟩ := hrel
      by_cases h0 : k < a.length
      · obtain ⟨b1, o1, rfl, _, hx⟩ := ha.at_ (by omega)
        obtain ⟨b2, o2, rfl, _, hy⟩ := hb.at_ (by omega)
        have hxk := hx k (by omega)
        have hyk := hy k (by omega)
        clear ha hb hx hy
        by_cases h1 : wd a k = wd b k
        · have t1 : ((wd a k : Int) != (wd b k : Int)) = false := by simp; omega
          have HR := Lib.hid (same_step h0 HL.out hk2.out h1)
          clear h1
          go_wp2
          go_quiet (fail)
          go_wp2
          go_roundw
          case rel => exact ⟨k + 1, by omega, by go_num, HR, _, rfl⟩
          case measure => simp [intOf]; omega
        · have t1 : ((wd a k : Int) != (wd b k : Int)) = true := by simp; omega
          go_wp2
          go_quiet (fail)
          go_wp2
          go_ret
          refine ⟨ret_bool ?_, drw _ _⟩
          rw [decide_eq_false (fun e => h1 (by rw [e]))]
      · obtain rfl : k = a.length := by omega
        go_wp2
        go_ret
        refine ⟨?_, q, rfl⟩
        have h2 := hk2.out
        rw [List.take_length, HL.out, List.take_length] at h2
        exact ret_bool (by rw [decide_eq_true h2])
  · have hl1 : ((a.length : Int) != (b.length : Int)) = true := by simp; omega
    go_enter Try.func45, Try.ntmps45
    go_wp2
    go_ret
    exact ⟨ret_bool (by rw [decide_eq_false (fun e => hlen (by rw [e]))]), 0, rfl⟩

theorem word_any (A : Option Addr) (c n : Nat) (a : List Nat) (w : World) (i : Int) (hi : 0 ≤ i) (hn : n = a.length) (ha : RW w w.heap.size A c a) :
    Calls Try.prog 93 #[.slice A n c, .int .i64 i] w fun e w' => e = .returned (.int .u64 (wd a i.toNat)) ∧ w = w' := by
  subst hn
  obtain ⟨k, rfl⟩ := Int.eq_ofNat_of_zero_le hi
  rw [Int.toNat_natCast]
  have hba := ha.big
  have hwd := wd_lt ha.b32 k
  by_cases h0 : k < a.length
  · obtain ⟨b1, o1, rfl, _, hx⟩ := ha.at_ (by omega)
    have hxk := hx k (by omega)
    clear ha hx
    go_enter Try.func93, Try.ntmps93
    go_wp2
    go_ret
    exact ⟨rfl, rfl⟩
  · have HW := Lib.hid (wd_out (l := a) (k := k) (by omega))
    go_enter Try.func93, Try.ntmps93
    go_wp2
    go_ret
    exact ⟨by rw [HW.out]; rfl, rfl⟩

theorem add32_any (x y z : Nat) (w : World) (hx2 : x < 4294967296) (hy2 : y < 4294967296) (hz2 : z ≤ 1) :
    Calls Try.prog 84 #[.int .u32 x, .int .u32 y, .int .u32 z] w fun e w' => e = .returned (.tuple #[.int .u32 (addf x y z), .int .u32 (addc x y z)]) ∧ w = w' := by
  have e1 : ((x : Int) + y + z) % 4294967296 = (addf x y z : Int) := by unfold addf; omega
  have e2 : ((x : Int) + y + z) / 4294967296 = (addc x y z : Int) := by unfold addc; omega
  have E1 := Lib.hid e1
  have E2 := Lib.hid e2
  clear e1 e2
  go_enter Try.func84, Try.ntmps84
  go_wp2
  go_ret2
  refine ⟨?_, rfl⟩
  rw [← E1.out, ← E2.out]
  rfl

theorem sub32_any (x y z : Nat) (w : World) (hx2 : x < 4294967296) (hy2 : y < 4294967296) (hz2 : z ≤ 1) :
    Calls Try.prog 95 #[.int .u32 x, .int .u32 y, .int .u32 z] w fun e w' => e = .returned (.tuple #[.int .u32 (sdf32 x y z), .int .u32 (bor32 x y z)]) ∧ w = w' := by
  go_enter Try.func95, Try.ntmps95
  go_wp2
  have hd : ((x : Int) - y - z) % 4294967296 = (sdf32 x y z : Int) := by unfold sdf32; omega
  have hdl : sdf32 x y z < 4294967296 := by unfold sdf32; omega
  have hmax : IntKind.u32.max = ((4294967295 : Nat) : Int) := rfl
  have hb := sub_borrow hx2 hy2 hz2 (d := sdf32 x y z) rfl
  rw [hd, hmax]
  generalize sdf32 x y z = d at *
  have h1 : (4294967295 ^^^ x) < 2 ^ 32 := Nat.xor_lt_two_pow (by omega) (by omega)
  have h0 : (x ^^^ y) < 2 ^ 32 := Nat.xor_lt_two_pow (by omega) (by omega)
  have h2 : (4294967295 ^^^ (x ^^^ y)) < 2 ^ 32 := Nat.xor_lt_two_pow (by omega) (by omega)
  have h3 : ((4294967295 ^^^ x) &&& y) < 2 ^ 32 := Nat.and_lt_two_pow _ (by omega)
  have h4 : ((4294967295 ^^^ (x ^^^ y)) &&& d) < 2 ^ 32 := Nat.and_lt_two_pow _ (by omega)
  rw [u32_xor_nat 4294967295 x (by omega) hx2, u32_xor_nat x y hx2 hy2, u32_xor_nat 4294967295 (x ^^^ y) (by omega) (by omega), u32_and_nat _ y (by omega) hy2, u32_and_nat _ d (by omega) hdl, u32_or_nat _ _ (by omega) (by omega)]
  go_ret2
  refine ⟨?_, rfl⟩
  rw [← hb]
  rfl
end Go.Proofs.Ytkjfpaommbjgbaa
namespace Go.Proofs.Ytkjfpaommbjgbaa
open Go.RowKit

/-- an answer: a slice of the call's own that holds a number's words -/
def RetW (w : World) (N : Nat) (e : Ending) (w' : World) : Prop := ∃ A' c', e = .returned (.slice A' (digs N).length c') ∧ OW w' w.heap.size A' c' (digs N) ∧ Below w.heap.size w w'

set_option maxHeartbeats 1000000 in
theorem plus_any (A D : Option Addr) (c d n m : Nat) (a b : List Nat) (w : World) (hn : n = a.length) (hm : m = b.length) (ha : RW w w.heap.size A c a) (hb : RW w w.heap.size D d b) (hla : a.length ≤ 17592186044416) (hlb : b.length ≤ 17592186044416) :
    Calls Try.prog 79 #[.slice A n c, .slice D m d] w (RetW w (val a + val b)) := by
  subst hn hm
  have ba := ha.b32
  have bb := hb.b32
  by_cases hlen : a.length < b.length
  · have hba2 : a.length ≤ b.length := by omega
    rw [Nat.add_comm (val a) (val b)]
    go_enter Try.func79, Try.ntmps79
    go_wp2_with (at_make; refine wp_makeW _ rfl _ _ rfl .i64 .i64 _ _ (b.length + 1) rfl rfl (by omega) (by omega) (by omega) ?_; intro w1 hO1 hb1 hs1)
    go_loopw [6, 22] (fun cr i wr => ∃ (k q : Nat) (o : List Nat), k ≤ b.length ∧ i = .int .i64 (k : Int) ∧ q ≤ 1 ∧ cr = .int .u32 (q : Int) ∧ OW wr w.heap.size (some ⟨w.heap.size, 0, none⟩) (b.length + 1) o ∧ Hid (o.length = b.length + 1) ∧
        Hid (val (o.take k) + q * Wp k = val (b.take k) + val (a.take k)) ∧ Below w.heap.size w wr) (fun _ i _ => (b.length - intOf i).toNat)
    case atStart => exact ⟨0, 0, _, Nat.zero_le _, rfl, by omega, rfl, hO1, by show _ = _; simp, by show _ = _; simp [val], hb1⟩
    case round =>
      obtain ⟨k, q, o, hk, rfl, hq, rfl, hO, hol, hinv, hbel⟩ := hrel
      have hwx := wd_lt bb k
      have hwy := wd_lt ba k
      have hb1 := hb.below hbel
      have ha1 := ha.below hbel
      have hfz := hO.frozen
      by_cases h0 : k < b.length
      · obtain ⟨b1, o1, rfl, hlt1, hx⟩ := hb1.at_ (by omega)
        have hxk := hx k h0
        have hok : k < o.length := by have := hol.out; omega
        have hoc := hO.cell hok
        have hfzk := hfz k
        have hst := Lib.hid (plus_step hok hinv.out)
        have hset := hO.set k (addf_lt (wd b k) (wd a k) q)
        have hcl := addc_le hwx hwy hq
        have hbel2 := hbel.setCell (p := ⟨w.heap.size, k, none⟩) (Nat.le_refl _) (.int .u32 (addf (wd b k) (wd a k) q : Nat))
        clear hx hb hb1
        by_cases h1 : k < a.length
        · obtain ⟨b2, o2, rfl, hlt2, hy⟩ := ha1.at_ (by omega)
          have hyk := hy k h1
          clear hy ha ha1
          go_wp2_with (go_at_call 84; refine (add32_any (wd b k) (wd a k) q _ hwx hwy hq).mono ?_; rintro e w' ⟨rfl, rfl⟩)
          go_roundw
          case rel => exact ⟨k + 1, _, _, by omega, by go_num, hcl, rfl, hset, by show _ = _; rw [List.length_set]; exact hol.out, hst, hbel2⟩
          case measure => simp [intOf]; omega
        · have hy0 := Lib.hid (wd_out (l := a) (k := k) (by omega))
          rw [hy0.out] at hst hset hcl hbel2
          clear ha ha1
          go_wp2_with (go_at_call 84; refine (add32_any (wd b k) 0 q _ hwx (by omega) hq).mono ?_; rintro e w' ⟨rfl, rfl⟩)
          go_roundw
          case rel => exact ⟨k + 1, _, _, by omega, by go_num, hcl, rfl, hset, by show _ = _; rw [List.length_set]; exact hol.out, hst, hbel2⟩
          case measure => simp [intOf]; omega
      · obtain rfl : k = b.length := by omega
        have hok : b.length < o.length := by have := hol.out; omega
        have hoc := hO.cell hok
        have hfzk := hfz b.length
        have hset := hO.set b.length (show q < 4294967296 by omega)
        have hbel2 := hbel.setCell (p := ⟨w.heap.size, b.length, none⟩) (Nat.le_refl _) (.int .u32 (q : Nat))
        have hfin := Lib.hid (plus_end hol.out (Nat.le_refl _) hba2 hinv.out)
        have hlen2 : Hid ((o.set b.length q).length = b.length + 1) := by show _ = _; rw [List.length_set]; exact hol.out
        go_wp2_with (go_at_call 62; refine (norm_any _ _ _ (o.set b.length q) _ hlen2.out.symm hset.rw).mono ?_; rintro e w' ⟨rfl, rfl⟩)
        go_ret
        have hn := hset.norm
        rw [hfin.out] at hn ⊢
        exact ⟨_, _, rfl, hn, hbel2⟩
  · have hba2 : b.length ≤ a.length := by omega
    go_enter Try.func79, Try.ntmps79
    go_wp2_with (at_make; refine wp_makeW _ rfl _ _ rfl .i64 .i64 _ _ (a.length + 1) rfl rfl (by omega) (by omega) (by omega) ?_; intro w1 hO1 hb1 hs1)
    go_loopw [6, 22] (fun cr i wr => ∃ (k q : Nat) (o : List Nat), k ≤ a.length ∧ i = .int .i64 (k : Int) ∧ q ≤ 1 ∧ cr = .int .u32 (q : Int) ∧ OW wr w.heap.size (some ⟨w.heap.size, 0, none⟩) (a.length + 1) o ∧ Hid (o.length = a.length + 1) ∧
        Hid (val (o.take k) + q * Wp k = val (a.take k) + val (b.take k)) ∧ Below w.heap.size w wr) (fun _ i _ => (a.length - intOf i).toNat)
    case atStart => exact ⟨0, 0, _, Nat.zero_le _, rfl, by omega, rfl, hO1, by show _ = _; simp, by show _ = _; simp [val], hb1⟩
    case round =>
      obtain ⟨k, q, o, hk, rfl, hq, rfl, hO, hol, hinv, hbel⟩ := hrel
      have hwx := wd_lt ba k
      have hwy := wd_lt bb k
      have ha1 := ha.below hbel
      have hb1 := hb.below hbel
      have hfz := hO.frozen
      by_cases h0 : k < a.length
      · obtain ⟨b1, o1, rfl, hlt1, hx⟩ := ha1.at_ (by omega)
        have hxk := hx k h0
        have hok : k < o.length := by have := hol.out; omega
        have hoc := hO.cell hok
        have hfzk := hfz k
        have hst := Lib.hid (plus_step hok hinv.out)
        have hset := hO.set k (addf_lt (wd a k) (wd b k) q)
        have hcl := addc_le hwx hwy hq
        have hbel2 := hbel.setCell (p := ⟨w.heap.size, k, none⟩) (Nat.le_refl _) (.int .u32 (addf (wd a k) (wd b k) q : Nat))
        clear hx ha ha1
        by_cases h1 : k < b.length
        · obtain ⟨b2, o2, rfl, hlt2, hy⟩ := hb1.at_ (by omega)
          have hyk := hy k h1
          clear hy hb hb1
          go_wp2_with (go_at_call 84; refine (add32_any (wd a k) (wd b k) q _ hwx hwy hq).mono ?_; rintro e w' ⟨rfl, rfl⟩)
          go_roundw
          case rel => exact ⟨k + 1, _, _, by omega, by go_num, hcl, rfl, hset, by show _ = _; rw [List.length_set]; exact hol.out, hst, hbel2⟩
          case measure => simp [intOf]; omega
        · have hy0 := Lib.hid (wd_out (l := b) (k := k) (by omega))
          rw [hy0.out] at hst hset hcl hbel2
          clear hb hb1
          go_wp2_with (go_at_call 84; refine (add32_any (wd a k) 0 q _ hwx (by omega) hq).mono ?_; rintro e w' ⟨rfl, rfl⟩)
          go_roundw
          case rel => exact ⟨k + 1, _, _, by omega, by go_num, hcl, rfl, hset, by show _ = _; rw [List.length_set]; exact hol.out, hst, hbel2⟩
          case measure => simp [intOf]; omega
      · obtain rfl : k = a.length := by omega
        have hok : a.length < o.length := by have := hol.out; omega
        have hoc := hO.cell hok
        have hfzk := hfz a.length
        have hset := hO.set a.length (show q < 4294967296 by omega)
        have hbel2 := hbel.setCell (p := ⟨w.heap.size, a.length, none⟩) (Nat.le_refl _) (.int .u32 (q : Nat))
        have hfin := Lib.hid (plus_end hol.out (Nat.le_refl _) hba2 hinv.out)
        have hlen2 : Hid ((o.set a.length q).length = a.length + 1) := by show _ = _; rw [List.length_set]; exact hol.out
        go_wp2_with (go_at_call 62; refine (norm_any _ _ _ (o.set a.length q) _ hlen2.out.symm hset.rw).mono ?_; rintro e w' ⟨rfl, rfl⟩)
        go_ret
        have hn := hset.norm
        rw [hfin.out] at hn ⊢
        exact ⟨_, _, rfl, hn, hbel2⟩

set_option maxHeartbeats 1000000 in
theorem less_any (A D : Option Addr) (c d n m : Nat) (a b : List Nat) (w : World) (hn : n = a.length) (hm : m = b.length) (ha : RW w w.heap.size A c a) (hb : RW w w.heap.size D d b) (hba2 : b.length ≤ a.length) (hle : val b ≤ val a) :
    Calls Try.prog 81 #[.slice A n c, .slice D m d] w (RetW w (val a - val b)) := by
  subst hn hm
  have ba := ha.b32
  have bb := hb.b32
  have hla := ha.big
  go_enter Try.func81, Try.ntmps81
  go_wp2_with (at_make; refine wp_makeW _ rfl _ _ rfl .i64 .i64 _ _ a.length rfl rfl (by omega) (by omega) (by omega) ?_; intro w1 hO1 hb1 hs1)
  go_loopw [6, 14] (fun cr i wr => ∃ (k q : Nat) (o : List Nat), k ≤ a.length ∧ i = .int .i64 (k : Int) ∧ q ≤ 1 ∧ cr = .int .u32 (q : Int) ∧ OW wr w.heap.size (some ⟨w.heap.size, 0, none⟩) a.length o ∧ Hid (o.length = a.length) ∧
      Hid (val (o.take k) + val (b.take k) = val (a.take k) + q * Wp k) ∧ Below w.heap.size w wr) (fun _ i _ => (a.length - intOf i).toNat)
  case atStart => exact ⟨0, 0, _, Nat.zero_le _, rfl, by omega, rfl, hO1, by show _ = _; simp, by show _ = _; simp [val], hb1⟩
  case round =>
    obtain ⟨k, q, o, hk, rfl, hq, rfl, hO, hol, hinv, hbel⟩ := hrel
    have hwx := wd_lt ba k
    have hwy := wd_lt bb k
    have ha1 := ha.below hbel
    have hb1 := hb.below hbel
    have hfz := hO.frozen
    by_cases h0 : k < a.length
    · obtain ⟨b1, o1, rfl, hlt1, hx⟩ := ha1.at_ (by omega)
      have hxk := hx k h0
      have hok : k < o.length := by have := hol.out; omega
      have hoc := hO.cell hok
      have hfzk := hfz k
      have hst := Lib.hid (less_step ba bb hq hok hinv.out)
      have hset := hO.set k (sdf_lt (wd a k) (wd b k) q)
      have hcl := bor_le (wd a k) (wd b k) q
      have hbel2 := hbel.setCell (p := ⟨w.heap.size, k, none⟩) (Nat.le_refl _) (.int .u32 (sdf32 (wd a k) (wd b k) q : Nat))
      clear hx ha ha1
      by_cases h1 : k < b.length
      · obtain ⟨b2, o2, rfl, hlt2, hy⟩ := hb1.at_ (by omega)
        have hyk := hy k h1
        clear hy hb hb1
        go_wp2_with (go_at_call 95; refine (sub32_any (wd a k) (wd b k) q _ hwx hwy hq).mono ?_; rintro e w' ⟨rfl, rfl⟩)
        go_roundw
        case rel => exact ⟨k + 1, _, _, by omega, by go_num, hcl, rfl, hset, by show _ = _; rw [List.length_set]; exact hol.out, hst, hbel2⟩
        case measure => simp [intOf]; omega
      · have hy0 := Lib.hid (wd_out (l := b) (k := k) (by omega))
        rw [hy0.out] at hst hset hcl hbel2
        clear hb hb1
        go_wp2_with (go_at_call 95; refine (sub32_any (wd a k) 0 q _ hwx (by omega) hq).mono ?_; rintro e w' ⟨rfl, rfl⟩)
        go_roundw
        case rel => exact ⟨k + 1, _, _, by omega, by go_num, hcl, rfl, hset, by show _ = _; rw [List.length_set]; exact hol.out, hst, hbel2⟩
        case measure => simp [intOf]; omega
    · obtain rfl : k = a.length := by omega
      have hfin := Lib.hid (less_end hol.out hO.b32 hba2 hle hinv.out)
      go_wp2_with (go_at_call 62; refine (norm_any _ _ _ o _ hol.out.symm hO.rw).mono ?_; rintro e w' ⟨rfl, rfl⟩)
      go_ret
      have hn := hO.norm
      rw [hfin.out] at hn ⊢
      exact ⟨_, _, rfl, hn, hbel⟩
end Go.Proofs.Ytkjfpaommbjgbaa
namespace Go.Proofs.Ytkjfpaommbjgbaa
open Go.RowKit

set_option maxHeartbeats 1000000 in
theorem rnorm_any (A : Option Addr) (c n : Nat) (l : List Nat) (w : World) (hn : n = l.length) (h : RW w w.heap.size A c l) :
    Calls Try.prog 70 #[.slice A n c] w (RetW w (val l)) := by
  subst hn
  have hbig := h.big
  have hlc := h.lc
  go_enter Try.func70, Try.ntmps70
  go_wp2
  go_loop [3] (fun n => ∃ k : Nat, k ≤ l.length ∧ n = .int .i64 k ∧ Hid (trimN l k = trimN l l.length)) (fun i => (intOf i).toNat)
  case atStart => exact ⟨l.length, Nat.le_refl _, rfl, rfl⟩
  case round =>
    obtain ⟨k, hk, rfl, hk2⟩ := hrel
    by_cases h0 : 0 < k
    · obtain ⟨b, off, rfl, hb, hx⟩ := h.at_ (by omega)
      have hxk := hx (k-1) (by omega)
      obtain ⟨j, rfl⟩ : ∃ j, k = j+1 := ⟨k-1, by omega⟩
      rw [Nat.add_sub_cancel] at hxk
      by_cases hz : wd l j = 0
      · have hz' : ((wd l j : Int) == 0) = true := by simp [hz]
        have HZ := Lib.hid hz; clear hz
        clear h hx
        go_wp2
        go_round
        case rel => exact ⟨j, by omega, by go_num, by have h2 := hk2.out; have h3 := HZ.out; simp only [trimN, h3, if_true] at h2; exact h2⟩
        case measure => simp [intOf]
      · have hz' : ((wd l j : Int) == 0) = false := by simp [hz]
        have hT : Hid (l.take (j + 1) = digs (val l)) := by
          have h2 := hk2.out
          simp only [trimN, hz, if_false] at h2
          have := trim_digs h.b32
          rw [← h2] at this; exact this
        have hr := (h.below ((Below.refl w.heap.size w).alloc (Nat.le_refl _) (.cells #[] 52))).take (j + 1)
        have hlen : (j + 1) = (l.take (j + 1)).length := by rw [List.length_take]; omega
        have HL := Lib.hid hlen; clear hlen
        clear h hx
        go_wp2_with (at_builtin; refine wp_appW _ rfl _ _ rfl w.heap.size _ _ _ [] rfl rfl (OW.empty w) _ _ _ (l.take (j + 1)) rfl HL.out _ hr (by rw [← HL.out]; simp; omega) (by simp) ?_; intro A' c' w' h1 h2 h3)
        go_ret
        have hE : ([] ++ l.take (j + 1)) = digs (val l) := by rw [List.nil_append, hT.out]
        rw [hE] at h1
        exact ⟨A', c', ret_slice (by rw [← hE, List.nil_append]; exact HL.out), h1, ((Below.refl w.heap.size w).alloc (Nat.le_refl _) _).trans h3⟩
    · obtain rfl : k = 0 := by omega
      have hE : ([] ++ []) = digs (val l) := by
        have h2 := hk2.out
        simp only [trimN] at h2
        have := trim_digs h.b32
        rw [← h2] at this; exact this
      have HE := Lib.hid hE; clear hE
      go_wp2_with (at_builtin; refine wp_appW _ rfl _ _ rfl w.heap.size _ _ _ [] rfl rfl (OW.empty w) _ _ _ [] rfl rfl _ (RW.nil _ 0 _ _) (by simp) (by simp) ?_; intro A' c' w' h1 h2 h3)
      go_ret
      rw [HE.out] at h1
      refine ⟨A', c', ?_, h1, ((Below.refl w.heap.size w).alloc (Nat.le_refl _) _).trans h3⟩
      rw [← HE.out]; rfl

/-! ### the reference's Plus -/
theorem rplus_step {a b o : List Nat} {k q : Nat} (hk : o.length = k) (h : val o + q * Wp k = val (a.take k) + val (b.take k)) :
    val (o ++ [(q + (wd a k + wd b k)) % 4294967296]) + (q + (wd a k + wd b k)) / 4294967296 * Wp (k + 1) = val (a.take (k + 1)) + val (b.take (k + 1)) := by
  have e : (q + (wd a k + wd b k)) % 4294967296 + (q + (wd a k + wd b k)) / 4294967296 * 4294967296 = q + (wd a k + wd b k) := by omega
  generalize (q + (wd a k + wd b k)) % 4294967296 = f at *
  generalize (q + (wd a k + wd b k)) / 4294967296 = c at *
  rw [val_append, hk, val_take_succ' a, val_take_succ' b, Wp_succ, val_one]
  have e2 : (f + c * 4294967296) * Wp k = (q + (wd a k + wd b k)) * Wp k := by rw [e]
  rw [Nat.add_mul, Nat.add_mul, Nat.add_mul] at e2
  have e3 : c * (4294967296 * Wp k) = c * 4294967296 * Wp k := by rw [Nat.mul_assoc]
  rw [Nat.mul_comm (Wp k) f]
  omega
theorem rplus_end {a b o : List Nat} {k q : Nat} (hk : o.length = k) (ha : a.length ≤ k) (hb : b.length ≤ k) (h : val o + q * Wp k = val (a.take k) + val (b.take k)) : val (o ++ [q]) = val a + val b := by
  rw [val_append, hk, val_one, Nat.mul_comm, h, val_take_all ha, val_take_all hb]
def rf (q x y : Nat) : Nat := (q + (x + y)) % 4294967296
def rc (q x y : Nat) : Nat := (q + (x + y)) / 4294967296
theorem rf_lt (q x y : Nat) : rf q x y < 4294967296 := Nat.mod_lt _ (by omega)
theorem rc_le {q x y : Nat} (hq : q ≤ 1) (hx : x < 4294967296) (hy : y < 4294967296) : rc q x y ≤ 1 := by unfold rc; omega

theorem word_k (A : Option Addr) (c n : Nat) (a : List Nat) (w : World) (i : Int) (k : Nat) (hi : i = (k : Int)) (hn : n = a.length) (ha : RW w w.heap.size A c a) :
    Calls Try.prog 93 #[.slice A n c, .int .i64 i] w fun e w' => e = .returned (.int .u64 (wd a k)) ∧ w = w' := by
  subst hi
  exact (word_any A c n a w (k : Int) (by omega) hn ha)

set_option maxHeartbeats 1000000 in
theorem rplus_any (A D : Option Addr) (c d n m : Nat) (a b : List Nat) (w : World) (hn : n = a.length) (hm : m = b.length) (ha : RW w w.heap.size A c a) (hb : RW w w.heap.size D d b) (hla : a.length ≤ 8796093022208) (hlb : b.length ≤ 8796093022208) :
    Calls Try.prog 74 #[.slice A n c, .slice D m d] w (RetW w (val a + val b)) := by
  subst hn hm
  have ba := ha.b32
  have bb := hb.b32
  go_enter Try.func74, Try.ntmps74
  go_wp2
  go_loopw [5, 6, 7] (fun sv cr i wr => ∃ (k q : Nat) (A' : Option Addr) (c' : Nat) (o : List Nat), (k ≤ a.length ∨ k ≤ b.length) ∧ i = .int .i64 (k : Int) ∧ q ≤ 1 ∧ cr = .int .u64 (q : Int) ∧ sv = .slice A' o.length c' ∧ OW wr w.heap.size A' c' o ∧ Hid (o.length = k) ∧
      Hid (val o + q * Wp k = val (a.take k) + val (b.take k)) ∧ Below w.heap.size w wr) (fun _ _ i _ => a.length + b.length - (intOf i).toNat)
  case atStart => exact ⟨0, 0, _, 0, [], .inl (Nat.zero_le _), rfl, by omega, rfl, rfl, OW.empty w, rfl, by show _ = _; simp [val], (Below.refl w.heap.size w).alloc (Nat.le_refl _) _⟩
  case round =>
    obtain ⟨k, q, A', c', o, hk, rfl, hq, rfl, rfl, hO, hol, hinv, hbel⟩ := hrel
    have hwx := wd_lt ba k
    have hwy := wd_lt bb k
    have ha1 := (ha.below hbel).more hbel.size
    have hb1 := (hb.below hbel).more hbel.size
    by_cases h0 : k < a.length ∨ k < b.length
    · have e1 : ((q : Int) + ((wd a k : Int) + (wd b k : Int))) % 4294967296 = (rf q (wd a k) (wd b k) : Int) := by unfold rf; omega
      have e2 : ((q : Int) + ((wd a k : Int) + (wd b k : Int))) / 4294967296 = (rc q (wd a k) (wd b k) : Int) := by unfold rc; omega
      have hst := Lib.hid (rplus_step hol.out hinv.out)
      have hrc := rc_le hq hwx hwy
      have hone := RW.one wr 52 (rf_lt q (wd a k) (wd b k))
      have hb2 : Below w.heap.size w (wr.alloc (.cells #[.int .u32 (rf q (wd a k) (wd b k) : Int)] 52)) := hbel.alloc hbel.size _
      have hol2 : o.length ≤ 17592186044416 := by have := hol.out; omega
      have hK : Hid ((o ++ [rf q (wd a k) (wd b k)]).length = k + 1) := by show _ = _; rw [List.length_append, hol.out]; rfl
      by_cases h00 : k < a.length
      · go_wp2_with fail
        refine (word_k _ _ _ a _ _ k rfl rfl ha1).mono ?_; rintro e w' ⟨rfl, rfl⟩
        go_wp2_with fail
        refine (word_k _ _ _ b _ _ k rfl rfl hb1).mono ?_; rintro e w' ⟨rfl, rfl⟩
        go_wp2_with (at_builtin; refine wp_appW _ rfl _ _ rfl w.heap.size _ _ _ o rfl rfl (hO.alloc _) _ _ _ [rf q (wd a k) (wd b k)] rfl rfl _ hone (by simp; omega) hb2.size ?_; intro A2 c2 w2 g1 g2 g3)
        go_roundw
        case rel => exact ⟨k + 1, _, A2, c2, _, by omega, by go_num, hrc, rfl, by rw [List.length_append]; rfl, g1, hK, hst, hb2.trans g3⟩
        case measure => simp [intOf]; omega
      · have h01 : k < b.length := by omega
        go_wp2_with fail
        refine (word_k _ _ _ a _ _ k rfl rfl ha1).mono ?_; rintro e w' ⟨rfl, rfl⟩
        go_wp2_with fail
        refine (word_k _ _ _ b _ _ k rfl rfl hb1).mono ?_; rintro e w' ⟨rfl, rfl⟩
        go_wp2_with (at_builtin; refine wp_appW _ rfl _ _ rfl w.heap.size _ _ _ o rfl rfl (hO.alloc _) _ _ _ [rf q (wd a k) (wd b k)] rfl rfl _ hone (by simp; omega) hb2.size ?_; intro A2 c2 w2 g1 g2 g3)
        go_roundw
        case rel => exact ⟨k + 1, _, A2, c2, _, by omega, by go_num, hrc, rfl, by rw [List.length_append]; rfl, g1, hK, hst, hb2.trans g3⟩
        case measure => simp [intOf]; omega
    · have h01 : ¬ k < a.length := by omega
      have h02 : ¬ k < b.length := by omega
      have hone := RW.one wr 52 (show q < 4294967296 by omega)
      have hb2 : Below w.heap.size w (wr.alloc (.cells #[.int .u32 (q : Int)] 52)) := hbel.alloc hbel.size _
      have hol2 : o.length ≤ 17592186044416 := by have := hol.out; omega
      have hfin := Lib.hid (rplus_end hol.out (by omega) (by omega) hinv.out)
      clear hk
      go_wp2_with (first
        | (at_builtin; refine wp_appW _ rfl _ _ rfl w.heap.size _ _ _ o rfl rfl (hO.alloc _) _ _ _ [q] rfl rfl _ hone (by simp; omega) hb2.size ?_; intro A2 c2 w2 g1 g2 g3)
        | (go_at_call 70; refine (rnorm_any _ _ _ (o ++ [q]) _ (by simp) g1.rw).mono ?_; rintro e w3 ⟨A3, c3, rfl, g4, g5⟩))
      go_ret
      rw [hfin.out] at g4 ⊢
      have hb3 := hb2.trans g3
      exact ⟨A3, c3, rfl, g4.base_le hb3.size, hb3.trans (g5.mono hb3.size)⟩

theorem rless_step {a b o : List Nat} {k q : Nat} (ha : B32 a) (hb : B32 b) (hq : q ≤ 1) (hk : o.length = k) (h : val o + val (b.take k) = val (a.take k) + q * Wp k) :
    val (o ++ [sdf32 (wd a k) (wd b k) q]) + val (b.take (k + 1)) = val (a.take (k + 1)) + bor32 (wd a k) (wd b k) q * Wp (k + 1) := by
  have e := sub_eq (wd_lt ha k) (wd_lt hb k) hq
  generalize sdf32 (wd a k) (wd b k) q = f at *
  generalize bor32 (wd a k) (wd b k) q = c at *
  rw [val_append, hk, val_take_succ' a, val_take_succ' b, Wp_succ, val_one]
  have e2 : (f + wd b k + q) * Wp k = (wd a k + c * 4294967296) * Wp k := by rw [e]
  rw [Nat.add_mul, Nat.add_mul, Nat.add_mul] at e2
  have e3 : c * (4294967296 * Wp k) = c * 4294967296 * Wp k := by rw [Nat.mul_assoc]
  rw [Nat.mul_comm (Wp k) f]
  omega
theorem rless_end {a b o : List Nat} {q : Nat} (ho : o.length = a.length) (hoB : B32 o) (hb : b.length ≤ a.length) (hle : val b ≤ val a)
    (h : val o + val (b.take a.length) = val (a.take a.length) + q * Wp a.length) : val o = val a - val b :=
  less_end ho hoB hb hle (by rw [val_take_all (Nat.le_of_eq ho)]; exact h)

set_option maxHeartbeats 1000000 in
theorem rless_any (A D : Option Addr) (c d n m : Nat) (a b : List Nat) (w : World) (hn : n = a.length) (hm : m = b.length) (ha : RW w w.heap.size A c a) (hb : RW w w.heap.size D d b) (hba2 : b.length ≤ a.length) (hle : val b ≤ val a) (hla : a.length ≤ 8796093022208) :
    Calls Try.prog 91 #[.slice A n c, .slice D m d] w (RetW w (val a - val b)) := by
  subst hn hm
  have ba := ha.b32
  have bb := hb.b32
  go_enter Try.func91, Try.ntmps91
  go_wp2
  go_loopw [5, 6, 7] (fun sv cr i wr => ∃ (k q : Nat) (A' : Option Addr) (c' : Nat) (o : List Nat), k ≤ a.length ∧ i = .int .i64 (k : Int) ∧ q ≤ 1 ∧ cr = .int .u64 (q : Int) ∧ sv = .slice A' o.length c' ∧ OW wr w.heap.size A' c' o ∧ Hid (o.length = k) ∧
      Hid (val o + val (b.take k) = val (a.take k) + q * Wp k) ∧ Below w.heap.size w wr) (fun _ _ i _ => a.length - (intOf i).toNat)
  case atStart => exact ⟨0, 0, _, 0, [], Nat.zero_le _, rfl, by omega, rfl, rfl, OW.empty w, rfl, by show _ = _; simp [val], (Below.refl w.heap.size w).alloc (Nat.le_refl _) _⟩
  case round =>
    obtain ⟨k, q, A', c', o, hk, rfl, hq, rfl, rfl, hO, hol, hinv, hbel⟩ := hrel
    have hwx := wd_lt ba k
    have hwy := wd_lt bb k
    have ha1 := (ha.below hbel).more hbel.size
    have hb1 := (hb.below hbel).more hbel.size
    by_cases h0 : k < a.length
    · have hst := Lib.hid (rless_step ba bb hq hol.out hinv.out)
      have hrc := bor_le (wd a k) (wd b k) q
      have hone := RW.one wr 52 (sdf_lt (wd a k) (wd b k) q)
      have hb2 : Below w.heap.size w (wr.alloc (.cells #[.int .u32 (sdf32 (wd a k) (wd b k) q : Int)] 52)) := hbel.alloc hbel.size _
      have hol2 : o.length ≤ 17592186044416 := by have := hol.out; omega
      have hK : Hid ((o ++ [sdf32 (wd a k) (wd b k) q]).length = k + 1) := by show _ = _; rw [List.length_append, hol.out]; rfl
      by_cases hlt : wd a k < wd b k + q
      · have hbor : Hid (bor32 (wd a k) (wd b k) q = 1) := by show _ = _; simp [bor32, hlt]
        rw [hbor.out] at hst hrc
        have e1 : ((wd a k : Int) + 4294967296 - ((wd b k : Int) + (q : Int))) = (sdf32 (wd a k) (wd b k) q : Int) := by unfold sdf32; omega
        go_wp2_with fail
        refine (word_k _ _ _ a _ _ k rfl rfl ha1).mono ?_; rintro e w' ⟨rfl, rfl⟩
        go_wp2_with fail
        refine (word_k _ _ _ b _ _ k rfl rfl hb1).mono ?_; rintro e w' ⟨rfl, rfl⟩
        go_wp2_with (at_builtin; refine wp_appW _ rfl _ _ rfl w.heap.size _ _ _ o rfl rfl (hO.alloc _) _ _ _ [sdf32 (wd a k) (wd b k) q] rfl rfl _ hone (by simp; omega) hb2.size ?_; intro A2 c2 w2 g1 g2 g3)
        go_roundw
        case rel => exact ⟨k + 1, 1, A2, c2, _, by omega, by go_num, hrc, rfl, by rw [List.length_append]; rfl, g1, hK, hst, hb2.trans g3⟩
        case measure => simp [intOf]; omega
      · have hbor : Hid (bor32 (wd a k) (wd b k) q = 0) := by show _ = _; simp [bor32, hlt]
        rw [hbor.out] at hst hrc
        have hd : decide (wd a k < wd b k + q) = false := by simp; omega
        have e1 : ((wd a k : Int) - ((wd b k : Int) + (q : Int))) = (sdf32 (wd a k) (wd b k) q : Int) := by unfold sdf32; omega
        go_wp2_with fail
        refine (word_k _ _ _ a _ _ k rfl rfl ha1).mono ?_; rintro e w' ⟨rfl, rfl⟩
        go_wp2_with fail
        refine (word_k _ _ _ b _ _ k rfl rfl hb1).mono ?_; rintro e w' ⟨rfl, rfl⟩
        go_wp2_with (at_builtin; refine wp_appW _ rfl _ _ rfl w.heap.size _ _ _ o rfl rfl (hO.alloc _) _ _ _ [sdf32 (wd a k) (wd b k) q] rfl rfl _ hone (by simp; omega) hb2.size ?_; intro A2 c2 w2 g1 g2 g3)
        go_roundw
        case rel => exact ⟨k + 1, 0, A2, c2, _, by omega, by go_num, hrc, rfl, by rw [List.length_append]; rfl, g1, hK, hst, hb2.trans g3⟩
        case measure => simp [intOf]; omega
    · obtain rfl : k = a.length := by omega
      have hfin := Lib.hid (rless_end hol.out hO.b32 hba2 hle hinv.out)
      have hO2 := hO.rw
      go_wp2_with (go_at_call 70; refine (rnorm_any _ _ _ o _ rfl hO2).mono ?_; rintro e w3 ⟨A3, c3, rfl, g4, g5⟩)
      go_ret
      rw [hfin.out] at g4 ⊢
      exact ⟨A3, c3, rfl, g4.base_le hbel.size, hbel.trans (g5.mono hbel.size)⟩
end Go.Proofs.Ytkjfpaommbjgbaa
namespace Go.Proofs.Ytkjfpaommbjgbaa
open Go.RowKit

def Zs (o : List Nat) (k : Nat) : Prop := ∀ t, k ≤ t → wd o t = 0
theorem Zs_rep (n k : Nat) : Zs (List.replicate n 0) k := fun t _ => wd_replicate n t
theorem Zs_set {o : List Nat} {k j x : Nat} (h : Zs o k) (hj : j < k) : Zs (o.set j x) k := fun t ht => by rw [wd_set_ne (by omega)]; exact h t ht
theorem Zs_more {o : List Nat} {k k' : Nat} (h : Zs o k) (hk : k ≤ k') : Zs o k' := fun t ht => h t (by omega)

set_option maxHeartbeats 2000000 in
theorem times_any (A D : Option Addr) (c d n m : Nat) (a b : List Nat) (w : World) (hn : n = a.length) (hm : m = b.length) (ha : RW w w.heap.size A c a) (hb : RW w w.heap.size D d b) (hla : a.length ≤ 17592186044416) (hlb : b.length ≤ 17592186044416) :
    Calls Try.prog 78 #[.slice A n c, .slice D m d] w (RetW w (val a * val b)) := by
  subst hn hm
  have ba := ha.b32
  have bb := hb.b32
  go_enter Try.func78, Try.ntmps78
  go_wp2_with (at_make; refine wp_makeW _ rfl _ _ rfl .i64 .i64 _ _ (a.length + b.length) rfl rfl (by omega) (by omega) (by omega) ?_; intro w1 hO1 hb1 hs1)
  go_loopw [19] (fun iv wr => ∃ (i : Nat) (o : List Nat), i ≤ a.length ∧ iv = .int .i64 (i : Int) ∧ OW wr w.heap.size (some ⟨w.heap.size, 0, none⟩) (a.length + b.length) o ∧ Hid (o.length = a.length + b.length) ∧
      Hid (val o = val (a.take i) * val b) ∧ Hid (Zs o (i + b.length)) ∧ Below w.heap.size w wr) (fun iv _ => (a.length - intOf iv).toNat)
  case atStart => exact ⟨0, _, Nat.zero_le _, rfl, hO1, by show _ = _; simp, by show _ = _; simp [val, val_replicate], Zs_rep _ _, hb1⟩
  case round =>
    obtain ⟨i, o, hi, rfl, hO, hol, hinv, hz, hbel⟩ := hrel
    obtain ⟨wo, rfl⟩ : ∃ wo : World, wo = wr := ⟨_, rfl⟩
    have hwx := wd_lt ba i
    have ha1 := ha.below hbel
    by_cases h0 : i < a.length
    · obtain ⟨b1, o1, rfl, hlt1, hx⟩ := ha1.at_ (by omega)
      have hxk := hx i h0
      clear hx ha ha1
      go_wp2
      go_loopw [8, 26] (fun cv jv wr => ∃ (j q : Nat) (o' : List Nat), j ≤ b.length ∧ jv = .int .i64 (j : Int) ∧ q < 4294967296 ∧ cv = .int .u64 (q : Int) ∧ OW wr w.heap.size (some ⟨w.heap.size, 0, none⟩) (a.length + b.length) o' ∧ Hid (o'.length = a.length + b.length) ∧
        Hid (val o' + q * Wp (i + j) = val o + wd a i * Wp i * val (b.take j)) ∧ Hid (Zs o' (i + b.length)) ∧ Below w.heap.size w wr) (fun _ jv _ => (b.length - intOf jv).toNat)
      case atStart => exact ⟨0, 0, o, Nat.zero_le _, rfl, by omega, rfl, hO, hol, by show _ = _; simp [val], hz, hbel⟩
      case round =>
        obtain ⟨j, q, o', hj, rfl, hq, rfl, hO', hol', hinv', hz', hbel'⟩ := hrel
        have hwy := wd_lt bb j
        have hb1 := hb.below hbel'
        have hwo := wd_lt hO'.b32 (i + j)
        have hfz := hO'.frozen
        by_cases h1 : j < b.length
        · obtain ⟨b2, o2, rfl, hlt2, hy⟩ := hb1.at_ (by omega)
          have hyk := hy j h1
          clear hy hb hb1
          have hok : i + j < o'.length := by have := hol'.out; omega
          have hoc := hO'.cell hok
          have hfzk := hfz (i + j)
          have hst := Lib.hid (times_step hok (wd a i) rfl hinv'.out)
          have hset := hO'.set (i + j) (tf_lt q (wd a i) (wd b j) (wd o' (i + j)))
          have hcl := tc_lt hq hwx hwy hwo
          have hbel2 := hbel'.setCell (p := ⟨w.heap.size, i + j, none⟩) (Nat.le_refl _) (.int .u32 (tf q (wd a i) (wd b j) (wd o' (i + j)) : Nat))
          obtain ⟨hm0, hm1⟩ := mulI hwx hwy
          have e1 := tf_int q (wd a i) (wd b j) (wd o' (i + j))
          have e2 := tc_int q (wd a i) (wd b j) (wd o' (i + j))
          go_wp2
          go_roundw
          case rel => exact ⟨j + 1, _, _, by omega, by go_num, hcl, rfl, hset, by show _ = _; rw [List.length_set]; exact hol'.out, hst, Zs_set hz'.out (by omega), hbel2⟩
          case measure => simp [intOf]; omega
        · obtain rfl : j = b.length := by omega
          have hok : i + b.length < o'.length := by have := hol'.out; omega
          have hoc := hO'.cell hok
          have hfzk := hfz (i + b.length)
          have hset := hO'.set (i + b.length) hq
          have hbel2 := hbel'.setCell (p := ⟨w.heap.size, i + b.length, none⟩) (Nat.le_refl _) (.int .u32 (q : Nat))
          have hfin := Lib.hid (times_end (a := a) hok (hz'.out _ (Nat.le_refl _)) hinv'.out hinv.out)
          clear hb hb1
          go_wp2
          go_roundw
          case rel => exact ⟨i + 1, _, by omega, by go_num, hset, by show _ = _; rw [List.length_set]; exact hol'.out, hfin, Zs_set (Zs_more hz'.out (by omega)) (by omega), hbel2⟩
          case measure => simp [intOf]; omega
    · obtain rfl : i = a.length := by omega
      have hO2 := hO.rw
      have hfin : Hid (val o = val a * val b) := by have := hinv.out; rw [List.take_length] at this; exact this
      go_wp2_with (go_at_call 62; refine (norm_any _ _ _ o _ hol.out.symm hO2).mono ?_; rintro e w' ⟨rfl, rfl⟩)
      go_ret
      have hn := hO.norm
      rw [hfin.out] at hn ⊢
      exact ⟨_, _, rfl, hn, hbel⟩

set_option maxHeartbeats 2000000 in
theorem rtimes_any (A D : Option Addr) (c d n m : Nat) (a b : List Nat) (w : World) (hn : n = a.length) (hm : m = b.length) (ha : RW w w.heap.size A c a) (hb : RW w w.heap.size D d b) (hla : a.length ≤ 8796093022208) (hlb : b.length ≤ 8796093022208) :
    Calls Try.prog 75 #[.slice A n c, .slice D m d] w (RetW w (val a * val b)) := by
  subst hn hm
  have ba := ha.b32
  have bb := hb.b32
  go_enter Try.func75, Try.ntmps75
  go_wp2_with (at_make; refine wp_makeW _ rfl _ _ rfl .i64 .i64 _ _ (a.length + b.length + 1) rfl rfl (by omega) (by omega) (by omega) ?_; intro w1 hO1 hb1 hs1)
  go_loopw [6] (fun iv wr => ∃ (i : Nat) (o : List Nat), i ≤ a.length ∧ iv = .int .i64 (i : Int) ∧ OW wr w.heap.size (some ⟨w.heap.size, 0, none⟩) (a.length + b.length + 1) o ∧ Hid (o.length = a.length + b.length + 1) ∧
      Hid (val o = val (a.take i) * val b) ∧ Hid (Zs o (i + b.length)) ∧ Below w.heap.size w wr) (fun iv _ => (a.length - intOf iv).toNat)
  case atStart => exact ⟨0, _, Nat.zero_le _, rfl, hO1, by show _ = _; simp, by show _ = _; simp [val, val_replicate], Zs_rep _ _, hb1⟩
  case round =>
    obtain ⟨i, o, hi, rfl, hO, hol, hinv, hz, hbel⟩ := hrel
    obtain ⟨wo, rfl⟩ : ∃ wo : World, wo = wr := ⟨_, rfl⟩
    have hwx := wd_lt ba i
    have ha1 := ha.below hbel
    by_cases h0 : i < a.length
    · obtain ⟨b1, o1, rfl, hlt1, hx⟩ := ha1.at_ (by omega)
      have hxk := hx i h0
      clear hx ha1
      go_wp2
      go_loopw [7, 8] (fun cv jv wr => ∃ (j q : Nat) (o' : List Nat), j ≤ b.length + 1 ∧ jv = .int .i64 (j : Int) ∧ q < 4294967296 ∧ cv = .int .u64 (q : Int) ∧ OW wr w.heap.size (some ⟨w.heap.size, 0, none⟩) (a.length + b.length + 1) o' ∧ Hid (o'.length = a.length + b.length + 1) ∧
        Hid (val o' + q * Wp (i + j) = val o + wd a i * Wp i * val (b.take j)) ∧ Hid (Zs o' (max (i + b.length) (i + j))) ∧ Hid (j = b.length + 1 → q = 0) ∧ Below w.heap.size w wr) (fun _ jv _ => (b.length + 1 - intOf jv).toNat)
      case atStart => exact ⟨0, 0, o, Nat.zero_le _, rfl, by omega, rfl, hO, hol, by show _ = _; simp [val], Zs_more hz.out (by omega), fun _ => rfl, hbel⟩
      case round =>
        obtain ⟨j, q, o', hj, rfl, hq, rfl, hO', hol', hinv', hz', hlast, hbel'⟩ := hrel
        have hwy := wd_lt bb j
        have hb1 := (hb.below hbel').more hbel'.size
        have ha1 := ha.below hbel'
        have hwo := wd_lt hO'.b32 (i + j)
        have hfz := hO'.frozen
        by_cases h1 : j ≤ b.length
        · obtain ⟨b3, o3, e3, hlt3, hx3⟩ := ha1.at_ (by omega)
          have hxk3 := hx3 i h0
          simp only [Option.some.injEq, Addr.mk.injEq, and_true] at e3
          obtain ⟨rfl, rfl⟩ := e3
          clear hx3 ha ha1
          have hok : i + j < o'.length := by have := hol'.out; omega
          have hoc := hO'.cell hok
          have hfzk := hfz (i + j)
          have hst := Lib.hid (rtimes_step hok (wd a i) hinv'.out)
          have hset := hO'.set (i + j) (uf_lt (wd o' (i + j)) (wd a i) (wd b j) q)
          have hcl := uc_lt hq hwx hwy hwo
          have hbel2 := hbel'.setCell (p := ⟨w.heap.size, i + j, none⟩) (Nat.le_refl _) (.int .u32 (uf (wd o' (i + j)) (wd a i) (wd b j) q : Nat))
          obtain ⟨hm0, hm1⟩ := mulI hwx hwy
          have e1 := uf_int q (wd a i) (wd b j) (wd o' (i + j))
          have e2 := uc_int q (wd a i) (wd b j) (wd o' (i + j))
          have hl2 : Hid (j + 1 = b.length + 1 → uc (wd o' (i + j)) (wd a i) (wd b j) q = 0) := fun hj2 => by
            obtain rfl : j = b.length := by omega
            rw [hz'.out (i + b.length) (by omega), wd_out (l := b) (Nat.le_refl _)]
            exact uc_zero hq
          go_wp2
          go_quiet ((go_at_call 93; exact quiet_left (word_k _ _ _ b _ _ j rfl rfl hb1)))
          go_wp2
          go_roundw
          case rel => exact ⟨j + 1, _, _, by omega, by go_num, hcl, rfl, hset, by show _ = _; rw [List.length_set]; exact hol'.out, hst, Zs_set (Zs_more hz'.out (by omega)) (by omega), hl2, bdN hbel2 _⟩
          case measure => simp [intOf]; omega
        · obtain rfl : j = b.length + 1 := by omega
          have hq0 := Lib.hid (hlast.out rfl)
          have hfin := Lib.hid (rtimes_end (a := a) (b := b) (by rw [← hq0.out]; exact hinv'.out) hinv.out)
          clear hb1 ha1
          go_wp2
          go_roundw
          case rel => exact ⟨i + 1, o', by omega, by go_num, hO', hol', hfin, Zs_more hz'.out (by omega), hbel'⟩
          case measure => simp [intOf]; omega
    · obtain rfl : i = a.length := by omega
      have hO2 := hO.rw
      have hfin : Hid (val o = val a * val b) := by have := hinv.out; rw [List.take_length] at this; exact this
      go_wp2_with (go_at_call 70; refine (rnorm_any _ _ _ o _ hol.out.symm hO2).mono ?_; rintro e w3 ⟨A3, c3, rfl, g4, g5⟩)
      go_ret
      rw [hfin.out] at g4 ⊢
      exact ⟨_, _, rfl, g4.base_le hbel.size, hbel.trans (g5.mono hbel.size)⟩
end Go.Proofs.Ytkjfpaommbjgbaa
namespace Go.Proofs.Ytkjfpaommbjgbaa
open Go.RowKit

theorem nrm_iff {l : List Nat} (hb : B32 l) : l = digs (val l) ↔ Nrm l := ⟨Nrm_of_digs, fun h => (digs_val hb h).symm⟩
theorem rsound_any (A : Option Addr) (c n : Nat) (l : List Nat) (w : World) (hn : n = l.length) (h : RW w w.heap.size A c l) :
    Calls Try.prog 68 #[.slice A n c] w fun e w' => e = .returned (.bool (soundB l)) ∧ w = w' := by
  subst hn
  have hbig := h.big
  have hN := Lib.hid (nrm_iff h.b32)
  by_cases h5 : l.length ≤ 512
  · have h5' : decide ((l.length : Int) ≤ 512) = true := by simp; omega
    by_cases h0 : l.length = 0
    · have h0' : ((l.length : Int) == 0) = true := by simp [h0]
      have hl : Hid (soundB l = true) := by
        show _ = _
        have : l = [] := List.eq_nil_of_length_eq_zero h0
        subst this; simp [soundB, val, digs_zero]
      clear h0
      go_enter Try.func68, Try.ntmps68
      go_wp2
      go_ret
      exact ⟨ret_bool hl.out.symm, rfl⟩
    · have h0' : ((l.length : Int) == 0) = false := beq_eq_false_iff_ne.2 (by omega)
      obtain ⟨b, off, rfl, hb, hx⟩ := h.at_ (by omega)
      obtain ⟨j, hj⟩ : ∃ j, l.length = j + 1 := ⟨l.length - 1, by omega⟩
      have hxk := hx j (by omega)
      have hs : Hid (soundB l = decide (wd l j ≠ 0)) := by
        show _ = _
        rw [soundB, decide_eq_decide, hN.out]
        simp only [h5, true_and]
        constructor
        · rintro (h1 | h1)
          · subst h1; simp at h0
          · rw [hj] at h1; exact h1
        · intro h1; right; rw [hj]; exact h1
      have HJ := Lib.hid hj
      have e1 : (l.length : Int) - 1 = (j : Int) := by omega
      have hjl : j < l.length := by omega
      clear hj hx h
      by_cases hz : wd l j = 0
      · have hz' : ((wd l j : Int) != 0) = false := by simp [hz]
        have HZ := Lib.hid hz; clear hz
        go_enter Try.func68, Try.ntmps68
        go_wp2
        go_ret
        exact ⟨ret_bool (by rw [hs.out, HZ.out]; rfl), rfl⟩
      · have hz' : ((wd l j : Int) != 0) = true := by simp [hz]
        go_enter Try.func68, Try.ntmps68
        go_wp2
        go_ret
        exact ⟨ret_bool (by rw [hs.out, decide_eq_true hz]), rfl⟩
  · have h5' : decide ((l.length : Int) ≤ 512) = false := by simp; omega
    go_enter Try.func68, Try.ntmps68
    go_wp2
    go_ret
    refine ⟨ret_bool ?_, rfl⟩
    simp [soundB, h5]

def chk2 (a b : List Nat) : Bool := soundB a && soundB b

/-- the two slices that are checked, as the variadic list -/
theorem RL_two (w : World) (t : TypeId) (A D : Option Addr) (c d : Nat) (a b : List Nat) :
    RL fS (w.alloc (.cells #[.slice A a.length c, .slice D b.length d] t)) (w.heap.size + 1) (some ⟨w.heap.size, 0, none⟩) 2 [(A, c, a), (D, d, b)] := by
  refine ⟨by simp, by simp, fun _ => ⟨_, _, rfl, by omega, fun k z hk => ?_⟩⟩
  have h0 := heap_alloc_new w (.cells #[.slice A a.length c, .slice D b.length d] t)
  rw [cell_of_row _ _ _ _ _ _ h0, Nat.zero_add]
  match k, hk with
  | 0, hk => simp at hk; subst hk; rfl
  | 1, hk => simp at hk; subst hk; rfl
theorem RL_one (w : World) (t : TypeId) (A : Option Addr) (c : Nat) (a : List Nat) :
    RL fS (w.alloc (.cells #[.slice A a.length c] t)) (w.heap.size + 1) (some ⟨w.heap.size, 0, none⟩) 1 [(A, c, a)] := by
  refine ⟨by simp, by simp, fun _ => ⟨_, _, rfl, by omega, fun k z hk => ?_⟩⟩
  have h0 := heap_alloc_new w (.cells #[.slice A a.length c] t)
  rw [cell_of_row _ _ _ _ _ _ h0, Nat.zero_add]
  match k, hk with
  | 0, hk => simp at hk; subst hk; rfl

/-- check(a, b), as it is called -/
theorem check2_any (A D : Option Addr) (c d : Nat) (a b : List Nat) (w : World) (t : TypeId) (ha : RW w w.heap.size A c a) (hb : RW w w.heap.size D d b) :
    Calls Try.prog 65 #[.slice (some ⟨w.heap.size, 0, none⟩) 2 2] (w.alloc (.cells #[.slice A a.length c, .slice D b.length d] t)) fun e w' =>
      e = .returned (.int .i64 (if chk2 a b then 0 else 2)) ∧ w.alloc (.cells #[.slice A a.length c, .slice D b.length d] t) = w' := by
  have hb2 : Below w.heap.size w (w.alloc (.cells #[.slice A a.length c, .slice D b.length d] t)) := (Below.refl _ _).alloc (Nat.le_refl _) _
  have h := check_any (some ⟨w.heap.size, 0, none⟩) 2 2 [(A, c, a), (D, d, b)] _ rfl ((RL_two w t A D c d a b).more (by simp)) (by
    intro x hx
    simp only [List.mem_cons, List.not_mem_nil, or_false] at hx
    rcases hx with rfl | rfl
    · exact ha.step hb2 (by simp)
    · exact hb.step hb2 (by simp))
  simpa [chk, chk2] using h
theorem check1_any (A : Option Addr) (c : Nat) (a : List Nat) (w : World) (t : TypeId) (ha : RW w w.heap.size A c a) :
    Calls Try.prog 65 #[.slice (some ⟨w.heap.size, 0, none⟩) 1 1] (w.alloc (.cells #[.slice A a.length c] t)) fun e w' =>
      e = .returned (.int .i64 (if soundB a then 0 else 2)) ∧ w.alloc (.cells #[.slice A a.length c] t) = w' := by
  have hb2 : Below w.heap.size w (w.alloc (.cells #[.slice A a.length c] t)) := (Below.refl _ _).alloc (Nat.le_refl _) _
  have h := check_any (some ⟨w.heap.size, 0, none⟩) 1 1 [(A, c, a)] _ rfl ((RL_one w t A c a).more (by simp)) (by
    intro x hx
    simp only [List.mem_cons, List.not_mem_nil, or_false] at hx
    subst hx
    exact ha.step hb2 (by simp))
  simpa [chk] using h
end Go.Proofs.Ytkjfpaommbjgbaa
namespace Go.Proofs.Ytkjfpaommbjgbaa
open Go.RowKit

/-- an answer with an error's number: a slice of the call's own that holds a number's words -/
def RetE (w : World) (r : Nat × Int) (e : Ending) (w' : World) : Prop :=
  ∃ A' c', e = .returned (.tuple #[.slice A' (digs r.1).length c', .int .i64 r.2]) ∧ OW w' w.heap.size A' c' (digs r.1) ∧ Below w.heap.size w w'
def fitA (N : Nat) : Nat × Int := if (digs N).length ≤ 512 then (N, 0) else (0, 4)
theorem ret_nil {w w' : World} (k : Int) (hb : Below w.heap.size w w') : RetE w (0, k) (.returned (.tuple #[.slice none 0 0, .int .i64 k])) w' := by
  refine ⟨none, 0, ?_, ?_, hb⟩
  · rw [digs_zero]; rfl
  · rw [digs_zero]; exact OW.nil _ _

/-- fit of an answer -/
theorem fit_ret {w w1 w2 : World} {N : Nat} {A' : Option Addr} {c' : Nat} (hO : OW w1 w.heap.size A' c' (digs N)) (hb : Below w.heap.size w w1) {e : Ending}
    (he : e = .returned (if (digs N).length ≤ 512 then .tuple #[.slice A' (digs N).length c', .int .i64 0] else .tuple #[.slice none 0 0, .int .i64 4]) ∧ w1 = w2) : RetE w (fitA N) e w2 := by
  obtain ⟨rfl, rfl⟩ := he
  unfold fitA
  by_cases h : (digs N).length ≤ 512
  · rw [if_pos h, if_pos h]; exact ⟨A', c', rfl, hO, hb⟩
  · rw [if_neg h, if_neg h]; exact ret_nil 4 hb
theorem big_of_chk {a b : List Nat} (h : chk2 a b = true) : a.length ≤ 512 ∧ b.length ≤ 512 ∧ a = digs (val a) ∧ b = digs (val b) := by
  simp only [chk2, soundB, Bool.and_eq_true, decide_eq_true_eq] at h
  exact ⟨h.1.1, h.2.1, h.1.2, h.2.2⟩

def addA (a b : List Nat) : Nat × Int := if chk2 a b then fitA (val a + val b) else (0, 2)
def mulA (a b : List Nat) : Nat × Int := if chk2 a b then fitA (val a * val b) else (0, 2)
end Go.Proofs.Ytkjfpaommbjgbaa
namespace Go.Proofs.Ytkjfpaommbjgbaa
open Go.RowKit

theorem digs_one_ (x : Nat) (h0 : x ≠ 0) (h : x < 4294967296) : [x] = digs (val [x]) := by rw [val_one, digs_one h0 h]
theorem digs_wake : digs 4294967296 = [0, 1] := by
  have h := digs_val (l := [0, 1]) (B32_cons (by omega) (B32_cons (by omega) B32_nil)) (.inr (by simp [wd]))
  simpa [val] using h
theorem wake_add : addA [4294967295] [1] = (4294967296, 0) := by
  have h1 : soundB [4294967295] = true := by simp only [soundB, decide_eq_true_eq]; exact ⟨by simp, digs_one_ _ (by omega) (by omega)⟩
  have h2 : soundB [1] = true := by simp only [soundB, decide_eq_true_eq]; exact ⟨by simp, digs_one_ _ (by omega) (by omega)⟩
  have h3 : chk2 [4294967295] [1] = true := by simp [chk2, h1, h2]
  unfold addA fitA
  rw [if_pos h3, val_one, val_one]
  rw [show 4294967295 + 1 = 4294967296 from rfl, digs_wake]
  rfl

theorem same_eq (A D : Option Addr) (c d n m : Nat) (a : List Nat) (w : World) (hn : n = a.length) (hm : m = a.length) (ha : RW w w.heap.size A c a) (hb : RW w w.heap.size D d a) :
    Calls Try.prog 45 #[.slice A n c, .slice D m d] w fun e w' => e = .returned (.bool true) ∧ ∃ q, w' = w.drewN q := by
  have h := same_any A D c d n m a a w hn hm ha hb
  rw [decide_eq_true rfl] at h
  exact h

end Go.Proofs.Ytkjfpaommbjgbaa
namespace Go.Proofs.Ytkjfpaommbjgbaa
open Go.RowKit

set_option maxHeartbeats 1000000 in
theorem rorder_any (A D : Option Addr) (c d n m : Nat) (a b : List Nat) (w : World) (hn : n = a.length) (hm : m = b.length) (ha : RW w w.heap.size A c a) (hb : RW w w.heap.size D d b) (na : Nrm a) (nb : Nrm b) :
    Calls Try.prog 88 #[.slice A n c, .slice D m d] w fun e w' => e = .returned (.int .i64 (cmpN (val a) (val b))) ∧ ∃ q, w' = w.drewN q := by
  subst hn hm
  have hba := ha.big
  have hbb := hb.big
  have ba := ha.b32
  have bb := hb.b32
  by_cases hlen : a.length = b.length
  · have hl1 : True := trivial
    have HL := Lib.hid hlen
    have hlt : ¬ a.length < b.length := by omega
    have hgt : ¬ b.length < a.length := by omega
    clear hlen
    go_enter Try.func88, Try.ntmps88
    go_wp2
    go_loopw [5] (fun i wr => ∃ k : Nat, k ≤ a.length ∧ i = .int .i64 ((k : Int) - 1) ∧ Hid (a.drop k = b.drop k) ∧ ∃ q, wr = w.drewN q) (fun i _ => (intOf i + 1).toNat)
    case atStart => exact ⟨a.length, Nat.le_refl _, rfl, by show _ = _; rw [List.drop_length, HL.out, List.drop_length], 0, rfl⟩
    case round =>
      obtain ⟨k, hk, rfl, hk2, q, rfl⟩ := hrel
      by_cases h0 : 0 < k
      · obtain ⟨b1, o1, rfl, _, hx⟩ := ha.at_ (by omega)
        obtain ⟨b2, o2, rfl, _, hy⟩ := hb.at_ (by omega)
        obtain ⟨j, rfl⟩ : ∃ j, k = j+1 := ⟨k-1, by omega⟩
        have hxk := hx j (by omega)
        have hyk := hy j (by omega)
        clear ha hb hx hy
        have hj1 : (0 : Int) ≤ ((j + 1 : Nat) : Int) - 1 := by omega
        have HO := Lib.hid (ord_top ba bb (by omega) HL.out hk2.out)
        rcases Nat.lt_trichotomy (wd a j) (wd b j) with h1 | h1 | h1
        · have t2 : decide (wd b j < wd a j) = false := by simp; omega
          have HR := Lib.hid (HO.out.1 h1)
          go_wp2
          go_quiet (fail)
          go_wp2
          go_quiet (fail)
          go_wp2
          go_ret
          exact ⟨by rw [HR.out]; rfl, drw3 _ _ _⟩
        · have t1 : decide (wd a j < wd b j) = false := by simp; omega
          have t2 : decide (wd b j < wd a j) = false := by simp; omega
          have HR := Lib.hid (ord_step (by omega) HL.out hk2.out h1)
          clear h1
          go_wp2
          go_quiet (fail)
          go_wp2
          go_quiet (fail)
          go_wp2
          go_roundw
          case rel => exact ⟨j, by omega, by go_num, HR, _, rfl⟩
          case measure => simp [intOf]
        · have HR := Lib.hid (HO.out.2 h1)
          go_wp2
          go_quiet (fail)
          go_wp2
          go_ret
          exact ⟨by rw [HR.out]; rfl, drw _ _⟩
      · obtain rfl : k = 0 := by omega
        go_wp2
        go_ret
        refine ⟨?_, q, rfl⟩
        have h2 := hk2.out
        rw [List.drop_zero, List.drop_zero] at h2
        exact ret_int (by rw [h2, cmpN_self])
  · by_cases hlt : a.length < b.length
    · have HR := Lib.hid (cmpN_lt (len_lt ba nb hlt))
      go_enter Try.func88, Try.ntmps88
      go_wp2
      go_ret
      exact ⟨by rw [HR.out]; rfl, 0, rfl⟩
    · have HR := Lib.hid (cmpN_gt (len_lt bb na (by omega)))
      go_enter Try.func88, Try.ntmps88
      go_wp2
      go_ret
      exact ⟨by rw [HR.out]; rfl, 0, rfl⟩


theorem len_of_le {a b : List Nat} (ha : B32 a) (nb : Nrm b) (h : val b ≤ val a) : b.length ≤ a.length := by
  rcases Nat.lt_or_ge a.length b.length with h1 | h1
  · have := len_lt ha nb h1; omega
  · exact h1
def subA (a b : List Nat) : Nat × Int := if chk2 a b then (if val a < val b then (0, 1) else (val a - val b, 0)) else (0, 2)

def cmpA (a b : List Nat) : Int := if chk2 a b then cmpN (val a) (val b) else 0
def lo32 (n : Nat) : Nat := n % 4294967296
def hi32 (n : Nat) : Nat := n / 4294967296
theorem val_of (n : Nat) : val [lo32 n, hi32 n] = n := by simp only [val, lo32, hi32]; omega
theorem of_any (n : Int) (w : World) (h0 : 0 ≤ n) (h1 : n ≤ 18446744073709551615) : Calls Try.prog 44 #[.int .u64 n] w (RetW w n.toNat) := by
  obtain ⟨k, rfl⟩ := Int.eq_ofNat_of_zero_le h0
  rw [Int.toNat_natCast]
  have e1 : ((k : Int)) % 4294967296 = (lo32 k : Int) := by unfold lo32; omega
  have e2 : ((k : Int)) / 4294967296 = (hi32 k : Int) := by unfold hi32; omega
  have hl : lo32 k < 4294967296 := by unfold lo32; omega
  have hh : hi32 k < 4294967296 := by unfold hi32; omega
  have hO := OW.lit w [lo32 k, hi32 k] (by simp) (B32_cons hl (B32_cons hh B32_nil))
  have hb : Below w.heap.size w (w.alloc (.cells ([lo32 k, hi32 k].map fw).toArray 52)) := (Below.refl _ _).alloc (Nat.le_refl _) _
  have hn := norm_any (some ⟨w.heap.size, 0, none⟩) 2 2 [lo32 k, hi32 k] _ rfl hO.rw
  rw [val_of] at hn
  have hN := hO.norm
  rw [val_of] at hN
  go_enter Try.func44, Try.ntmps44
  go_wp2_with fail
  refine hn.mono ?_; rintro e w' ⟨rfl, rfl⟩
  go_wp2_with fail
  go_ret
  exact ⟨_, _, rfl, hN, hb⟩
theorem rof_any (n : Int) (w : World) (h0 : 0 ≤ n) (h1 : n ≤ 18446744073709551615) : Calls Try.prog 76 #[.int .u64 n] w (RetW w n.toNat) := by
  obtain ⟨k, rfl⟩ := Int.eq_ofNat_of_zero_le h0
  rw [Int.toNat_natCast]
  have e1 : ((k : Int)) % 4294967296 = (lo32 k : Int) := by unfold lo32; omega
  have e2 : ((k : Int)) / 4294967296 = (hi32 k : Int) := by unfold hi32; omega
  have hl : lo32 k < 4294967296 := by unfold lo32; omega
  have hh : hi32 k < 4294967296 := by unfold hi32; omega
  have hO := OW.lit w [lo32 k, hi32 k] (by simp) (B32_cons hl (B32_cons hh B32_nil))
  have hb : Below w.heap.size w (w.alloc (.cells ([lo32 k, hi32 k].map fw).toArray 52)) := (Below.refl _ _).alloc (Nat.le_refl _) _
  have hn := rnorm_any (some ⟨w.heap.size, 0, none⟩) 2 2 [lo32 k, hi32 k] _ rfl hO.rw
  rw [val_of] at hn
  go_enter Try.func76, Try.ntmps76
  go_wp2_with fail
  refine hn.mono ?_; rintro e w' ⟨A', c', rfl, hO', hb'⟩
  go_wp2_with fail
  go_ret
  exact ⟨_, _, rfl, hO'.base_le hb.size, hb.trans (hb'.mono hb.size)⟩
end Go.Proofs.Ytkjfpaommbjgbaa
namespace Go.Proofs.Ytkjfpaommbjgbaa
open Go.RowKit

theorem bitLenAux_eq (f x : Nat) (h : x < 2 ^ f) : Lib.bitLenAux f x = blen x := by
  induction f generalizing x with
  | zero => have : x = 0 := by simpa using h
            subst this; rw [blen_zero]; rfl
  | succ f ih =>
    rw [Lib.bitLenAux]
    by_cases h0 : x = 0
    · subst h0; rw [if_pos rfl, blen_zero]
    · rw [if_neg h0, blen_pos h0, ih (x / 2) (by rw [Nat.pow_succ] at h; omega)]; omega
theorem bitLen_eq (x : Nat) (h : x < 4294967296) : Lib.bitLen x = blen x := bitLenAux_eq 64 x (by omega)
theorem len32_any (x : Nat) (w : World) (h : x < 4294967296) :
    Calls Try.prog 96 #[.int .u32 (x : Int)] w fun e w' => e = .returned (.int .i64 (blen x)) ∧ w = w' := by
  have h1 := Try.bits_Len32 (x : Int) w (by omega) (by omega)
  rw [Int.toNat_natCast, bitLen_eq x h] at h1
  exact h1.mono fun _ _ ⟨a, b⟩ => ⟨a, b.symm⟩
theorem blen32 {x : Nat} (h : x < 4294967296) : blen x ≤ 32 := blen_le.2 (by omega)

/-- the bits of a list without noughts at its end -/
theorem size_val {l : List Nat} {j : Nat} (hb : B32 l) (hl : l.length = j + 1) (h : wd l j ≠ 0) : blen (val l) = 32 * j + blen (wd l j) := by
  have h1 := val_take_succ (l := l) (k := j) (by omega)
  rw [← hl, List.take_length] at h1
  have h2 : Wp j ≤ val l := by
    have := Nat.mul_le_mul_right (Wp j) (show 1 ≤ wd l j by omega)
    omega
  rw [Wp_eq] at h2
  rw [blen_div (32 * j) h2, ← Wp_eq]
  have h3 : val l / Wp j = wd l j := by
    rw [h1, Nat.add_mul_div_right _ _ (Wp_pos j)]
    rw [Nat.div_eq_of_lt (val_take_lt hb j)]; omega
  rw [h3]; omega

def bitsA (l : List Nat) : Int := if soundB l then blen (val l) else 0
theorem and1_u32 (x : Nat) (h : x < 4294967296) : bits .and .u32 (x : Int) 1 = ((x % 2 : Nat) : Int) := by
  rw [show (1 : Int) = ((1 : Nat) : Int) from rfl, u32_and_nat x 1 h (by omega), Nat.and_one_is_mod]
theorem shr_cast (x s : Nat) (h : x < 4294967296) : (x : Int) / 2 ^ s % 4294967296 = ((x / 2 ^ s : Nat) : Int) := by
  have h1 : x / 2 ^ s ≤ x := Nat.div_le_self _ _
  have h2 : ((x / 2 ^ s : Nat) : Int) = (x : Int) / 2 ^ s := by simp
  generalize x / 2 ^ s = y at *
  rw [← h2]; omega
theorem bit_any (A : Option Addr) (c n : Nat) (l : List Nat) (w : World) (i : Int) (k : Nat) (hi : i = (k : Int)) (hk : k ≤ 4503599627370496) (hn : n = l.length) (h : RW w w.heap.size A c l) :
    Calls Try.prog 86 #[.slice A n c, .int .i64 i] w fun e w' => e = .returned (.int .u32 (bitN (val l) k)) ∧ w = w' := by
  subst hi hn
  have h1 := word_k A c _ l w ((k : Int) / 32) (k / 32) (by omega) rfl h
  have hwl := wd_lt h.b32 (k / 32)
  have hb := Lib.hid (bit_wd h.b32 k)
  clear h
  go_enter Try.func86, Try.ntmps86
  go_wp2_with fail
  refine h1.mono ?_; rintro e w' ⟨rfl, rfl⟩
  go_wp2_with fail
  go_ret
  refine ⟨?_, rfl⟩
  rw [← hb.out]
  refine ret_int ?_
  rw [← and1_u32 _ (Nat.lt_of_le_of_lt (Nat.div_le_self _ _) hwl), ← shr_cast _ _ hwl]

theorem bitN_zero_of {n k : Nat} (h : n < 2 ^ (k + 1)) (h0 : bitN n k = 0) : n < 2 ^ k := by
  rw [bitN_top h] at h0
  split at h0
  · cases h0
  · omega
theorem bitN_one_of {n k : Nat} (h : n < 2 ^ (k + 1)) (h0 : bitN n k ≠ 0) : blen n = k + 1 := by
  rw [bitN_top h] at h0
  split at h0
  · have h1 := (blen_le (n := n) (k := k + 1)).2 h
    have h2 : ¬ blen n ≤ k := by rw [blen_le]; omega
    omega
  · exact absurd rfl h0
theorem val_lt2 {l : List Nat} (h : B32 l) : val l < 2 ^ (32 * l.length) := by rw [← Wp_eq]; exact val_lt h

set_option maxHeartbeats 1000000 in
theorem rsize_any (A : Option Addr) (c n : Nat) (l : List Nat) (w : World) (hn : n = l.length) (h : RW w w.heap.size A c l) :
    Calls Try.prog 89 #[.slice A n c] w fun e w' => e = .returned (.int .i64 (blen (val l))) ∧ w = w' := by
  subst hn
  have hbig := h.big
  have hv := Lib.hid (val_lt2 h.b32)
  go_enter Try.func89, Try.ntmps89
  go_wp2
  go_loop [3] (fun n => ∃ k : Nat, k ≤ 32 * l.length ∧ n = .int .i64 k ∧ Hid (val l < 2 ^ k)) (fun i => (intOf i).toNat)
  case atStart => exact ⟨32 * l.length, Nat.le_refl _, by go_num, hv⟩
  case round =>
    obtain ⟨k, hk, rfl, hk2⟩ := hrel
    clear hv
    by_cases h0 : 0 < k
    · obtain ⟨j, rfl⟩ : ∃ j, k = j+1 := ⟨k-1, by omega⟩
      have hB := bit_any A c _ l w (j : Int) j rfl (by omega) rfl h
      clear h
      by_cases hz : bitN (val l) j = 0
      · have hz' : ((bitN (val l) j : Int) == 0) = true := by simp [hz]
        have HZ := Lib.hid (bitN_zero_of hk2.out hz); clear hz
        go_wp2_with (go_at_call 86; refine hB.mono ?_; rintro e w' ⟨rfl, rfl⟩)
        go_round
        case rel => exact ⟨j, by omega, by go_num, HZ⟩
        case measure => simp [intOf]
      · have hz' : ((bitN (val l) j : Int) == 0) = false := beq_eq_false_iff_ne.2 (by omega)
        have HZ := Lib.hid (bitN_one_of hk2.out hz); clear hz
        go_wp2_with (go_at_call 86; refine hB.mono ?_; rintro e w' ⟨rfl, rfl⟩)
        go_ret
        refine ⟨?_, rfl⟩
        rw [HZ.out]
        exact ret_int (by omega)
    · obtain rfl : k = 0 := by omega
      have hv0 : Hid (blen (val l) = 0) := by
        have h1 := hk2.out
        show _ = _
        have : val l = 0 := by simpa using h1
        rw [this, blen_zero]
      go_wp2
      go_ret
      exact ⟨by rw [hv0.out]; rfl, rfl⟩
end Go.Proofs.Ytkjfpaommbjgbaa
