/- Merged texts: DatX, DatU, CopA, JoiA, CopB. -/
import Derived.Test.YtilhnjecnhpmlaaDoorGG
import Derived.Test.YtilhnjecnhpmlaaDoorGE
import Derived.StillTail
import Derived.Test.YtilhnjecnhpmlaaDoorGH
import Derived.Test.YtilhnjecnhpmlaaDoorGI
import Derived.Test.YtilhnjecnhpmlaaDoorGF
namespace Go.Proofs.YtilhnjecnhpmlaaDoor
open Go.RowKit

/-- a slice reads as a list, in a block of P -/
def RLP {α : Type} (f : α → Value) (w : World) (P : Nat → Prop) (A : Option Addr) (c : Nat) (l : List α) : Prop :=
  l.length ≤ c ∧ l.length ≤ 35184372088832 ∧ (0 < l.length → ∃ b off, A = some ⟨b, off, none⟩ ∧ P b ∧ ∀ k x, l[k]? = some x → w.cell? ⟨b, off + k, none⟩ = some (f x))
def WP (w : World) (P : Nat → Prop) (A : Option Addr) (c : Nat) (l : List Nat) : Prop := RLP fw w P A c l ∧ B32 l
mutual
/-- a value reads as the datum d, all of it in blocks of P -/
def RDP (w : World) (P : Nat → Prop) : Dat → Value → Prop
  | .mk k n re im t raw l, v => ∃ A1 c1 D1 d1 A2 c2 D2 d2 R rc L lc,
    v = .agg #[.int .i64 k, .int .i64 n, .bool re.s, .slice A1 re.a.length c1, .slice D1 re.b.length d1, .bool im.s, .slice A2 im.a.length c2, .slice D2 im.b.length d2, .string t, .slice R raw.length rc, .slice L l.length lc] ∧
    (WP w P A1 c1 re.a ∧ WP w P D1 d1 re.b ∧ WP w P A2 c2 im.a ∧ WP w P D2 d2 im.b ∧ RLP f8 w P R rc raw) ∧
    ((-9223372036854775808 ≤ k ∧ k ≤ 9223372036854775807) ∧ (-9223372036854775808 ≤ n ∧ n ≤ 9223372036854775807) ∧ t.size ≤ 1048576) ∧
    (l.length ≤ lc ∧ l.length ≤ 35184372088832) ∧ (0 < l.length → ∃ b off, L = some ⟨b, off, none⟩ ∧ P b ∧ RDPs w P l b off)
def RDPs (w : World) (P : Nat → Prop) : List Dat → Nat → Nat → Prop
  | [], _, _ => True
  | x :: xs, b, off => (∃ v : Value, RDP w P x v ∧ ∀ cs, v = .agg cs → ∀ j u, cs[j]? = some u → w.cell? ⟨b, off + j, none⟩ = some u) ∧ RDPs w P xs b (off + 11)
end
section
variable {w w' : World} {P P' : Nat → Prop}
/-- where a block's object stands, its cells stand -/
theorem cell_same {b : Nat} (h : w'.heap[b]? = w.heap[b]?) (off : Nat) : w'.cell? ⟨b, off, none⟩ = w.cell? ⟨b, off, none⟩ := by unfold World.cell?; rw [h]
theorem RLP.step {α : Type} {f : α → Value} {A : Option Addr} {c : Nat} {l : List α} (h : RLP f w P A c l) (hb : ∀ b, P b → w'.heap[b]? = w.heap[b]?) (hP : ∀ b, P b → P' b) : RLP f w' P' A c l :=
  ⟨h.1, h.2.1, fun h0 => by
    obtain ⟨b, off, e, hp, hc⟩ := h.2.2 h0
    exact ⟨b, off, e, hP b hp, fun k x hk => (cell_same (hb b hp) _).trans (hc k x hk)⟩⟩
theorem WP.step {A : Option Addr} {c : Nat} {l : List Nat} (h : WP w P A c l) (hb : ∀ b, P b → w'.heap[b]? = w.heap[b]?) (hP : ∀ b, P b → P' b) : WP w' P' A c l := ⟨h.1.step hb hP, h.2⟩
mutual
theorem RDP.step {w w' : World} {P P' : Nat → Prop} (hb : ∀ b, P b → w'.heap[b]? = w.heap[b]?) (hP : ∀ b, P b → P' b) : ∀ {d : Dat} {v : Value}, RDP w P d v → RDP w' P' d v
  | .mk k n re im t raw l, v, h => by
    rw [RDP] at h ⊢
    obtain ⟨A1, c1, D1, d1, A2, c2, D2, d2, R, rc, L, lc, e, ⟨h1, h2, h3, h4, h5⟩, hn, hl, hd⟩ := h
    refine ⟨A1, c1, D1, d1, A2, c2, D2, d2, R, rc, L, lc, e, ⟨h1.step hb hP, h2.step hb hP, h3.step hb hP, h4.step hb hP, h5.step hb hP⟩, hn, hl, fun h0 => ?_⟩
    obtain ⟨b, off, e1, e2, e3⟩ := hd h0
    exact ⟨b, off, e1, hP b e2, RDPs.step hb hP e2 e3⟩
theorem RDPs.step {w w' : World} {P P' : Nat → Prop} (hb : ∀ b, P b → w'.heap[b]? = w.heap[b]?) (hP : ∀ b, P b → P' b) : ∀ {l : List Dat} {b off : Nat}, P b → RDPs w P l b off → RDPs w' P' l b off
  | [], b, off, _, _ => by rw [RDPs]; trivial
  | x :: xs, b, off, hlt, h => by
    rw [RDPs] at h ⊢
    obtain ⟨⟨v, h1, h2⟩, h3⟩ := h
    exact ⟨⟨v, RDP.step hb hP h1, fun cs e j u hj => (cell_same (hb b hlt) _).trans (h2 cs e j u hj)⟩, RDPs.step hb hP hlt h3⟩
end
mutual
theorem RDP.rd {w : World} {P : Nat → Prop} {B : Nat} (hB : ∀ b, P b → b < B) : ∀ {d : Dat} {v : Value}, RDP w P d v → RD w B d v
  | .mk k n re im t raw l, v, h => by
    rw [RDP] at h
    rw [RD]
    obtain ⟨A1, c1, D1, d1, A2, c2, D2, d2, R, rc, L, lc, e, ⟨h1, h2, h3, h4, h5⟩, hn, hl, hd⟩ := h
    have q : ∀ {α : Type} {f : α → Value} {A : Option Addr} {c : Nat} {l : List α}, RLP f w P A c l → RL f w B A c l := fun h =>
      ⟨h.1, h.2.1, fun h0 => by obtain ⟨b, off, e, hp, hc⟩ := h.2.2 h0; exact ⟨b, off, e, hB b hp, hc⟩⟩
    refine ⟨A1, c1, D1, d1, A2, c2, D2, d2, R, rc, L, lc, e, ⟨⟨q h1.1, h1.2⟩, ⟨q h2.1, h2.2⟩, ⟨q h3.1, h3.2⟩, ⟨q h4.1, h4.2⟩, q h5⟩, hn, hl, fun h0 => ?_⟩
    obtain ⟨b, off, e1, e2, e3⟩ := hd h0
    exact ⟨b, off, e1, hB b e2, RDPs.rd hB e3⟩
theorem RDPs.rd {w : World} {P : Nat → Prop} {B : Nat} (hB : ∀ b, P b → b < B) : ∀ {l : List Dat} {b off : Nat}, RDPs w P l b off → RDs w B l b off
  | [], b, off, _ => by rw [RDs]; trivial
  | x :: xs, b, off, h => by
    rw [RDPs] at h
    rw [RDs]
    obtain ⟨⟨v, h1, h2⟩, h3⟩ := h
    exact ⟨⟨v, RDP.rd hB h1, h2⟩, RDPs.rd hB h3⟩
end
theorem RDP.mk_ {d : Dat} {A1 D1 A2 D2 R L : Option Addr} {c1 d1 c2 d2 rc lc : Nat} (h1 : WP w P A1 c1 d.re.a) (h2 : WP w P D1 d1 d.re.b) (h3 : WP w P A2 c2 d.im.a) (h4 : WP w P D2 d2 d.im.b) (h5 : RLP f8 w P R rc d.raw)
    (hn : (-9223372036854775808 ≤ d.k ∧ d.k ≤ 9223372036854775807) ∧ (-9223372036854775808 ≤ d.n ∧ d.n ≤ 9223372036854775807) ∧ d.t.size ≤ 1048576)
    (hl : d.l.length ≤ lc ∧ d.l.length ≤ 35184372088832) (hd : 0 < d.l.length → ∃ b off, L = some ⟨b, off, none⟩ ∧ P b ∧ RDPs w P d.l b off) :
    RDP w P d (.agg #[.int .i64 d.k, .int .i64 d.n, .bool d.re.s, .slice A1 d.re.a.length c1, .slice D1 d.re.b.length d1, .bool d.im.s, .slice A2 d.im.a.length c2, .slice D2 d.im.b.length d2, .string d.t, .slice R d.raw.length rc, .slice L d.l.length lc]) := by
  cases d
  rw [RDP]
  exact ⟨A1, c1, D1, d1, A2, c2, D2, d2, R, rc, L, lc, rfl, ⟨h1, h2, h3, h4, h5⟩, hn, hl, hd⟩
/-- a block's data, one by one -/
theorem RDPs.of {b : Nat} : ∀ (l : List Dat) (off : Nat), (∀ i x, l[i]? = some x → ∃ cs : List Value, cs.length = 11 ∧ RDP w P x (.agg cs.toArray) ∧ w.rangeAt b (off + i * 11) cs) → RDPs w P l b off
  | [], off, _ => by rw [RDPs]; trivial
  | x :: xs, off, h => by
    rw [RDPs]
    obtain ⟨cs, _, h1, h2⟩ := h 0 x rfl
    refine ⟨⟨_, h1, fun cs' e j u hj => ?_⟩, RDPs.of xs (off + 11) fun i y hi => ?_⟩
    · have e2 := Value.agg.inj e
      rw [← e2] at hj
      have := h2 j u (by simpa using hj)
      simpa using this
    · obtain ⟨cs, h0, h1, h2⟩ := h (i + 1) y (by simpa using hi)
      exact ⟨cs, h0, h1, fun j u hj => by rw [show off + 11 + i * 11 + j = off + (i + 1) * 11 + j by omega]; exact h2 j u hj⟩
theorem some_setCell (a p : Addr) (v : Value) (h : (w.cell? p).isSome = true) : ((w.setCell a v).cell? p).isSome = true := by
  by_cases e : p = a
  · subst e
    obtain ⟨u, hu⟩ := Option.isSome_iff_exists.1 h
    rw [World.cell?_setCell_same w _ v hu]; rfl
  · rw [World.cell?_setCell_other w _ _ v (fun e2 => e (by rw [e2]))]; exact h
theorem some_setCells (b : Nat) (p : Addr) : ∀ (cs : List Value) (o : Nat) (w : World), (w.cell? p).isSome = true → ((w.setCells b o cs).cell? p).isSome = true
  | [], _, _, h => h
  | _ :: cs, o, _, h => some_setCells b p cs (o + 1) _ (some_setCell _ _ _ h)
/-- n cells of a block stand from off on and may be written -/
theorem there_set {b off n o : Nat} (h : w.there b off n) (cs : List Value) : (w.setCells b o cs).there b off n := fun j hj => by
  obtain ⟨h1, h2⟩ := h j hj
  exact ⟨some_setCells b _ cs o w h1, by rw [World.frozen?_setCells]; exact h2⟩
theorem rangeAt_set {b o : Nat} (cs : List Value) (h : ∀ j, j < cs.length → (w.cell? ⟨b, o + j, none⟩).isSome = true) : (w.setCells b o cs).rangeAt b o cs := fun j u hj => by
  have hl := (List.getElem?_eq_some_iff.1 hj).1
  rw [World.cell?_setCells_in b cs o w h j hl]
  exact (List.getElem?_eq_getElem hl).symm.trans hj
theorem rangeAt_far {b o p : Nat} (cs ds : List Value) (h : w.rangeAt b p ds) (hd : p + ds.length ≤ o ∨ o + cs.length ≤ p) : (w.setCells b o cs).rangeAt b p ds := fun j u hj => by
  have hl := (List.getElem?_eq_some_iff.1 hj).1
  exact (World.cell?_setCells_out b cs o w ⟨b, p + j, none⟩ (fun _ _ => by simp only; omega)).trans (h j u hj)
end
end Go.Proofs.YtilhnjecnhpmlaaDoor
namespace Go.Proofs.YtilhnjecnhpmlaaDoor
open Go.RowKit

section
variable {P : Program} {ops : Array Oper} {Q : Exit → Act → World → Prop} {md : Region.Mode} {S : World → Prop} {n : Nat}
/-- in whatever order; S holds behind every operation ahead of number n -/
def AnyV (P : Program) (md : Region.Mode) (ops : Array Oper) (Q : Exit → Act → World → Prop) (S : World → Prop) (n : Nat) : Nat → Array Bool → Act → World → Prop
  | 0 => fun l a w => Region.ready md ops l = [] ∧ Q .normal a w
  | f + 1 => fun l a w => (Region.ready md ops l = [] → Q .normal a w) ∧
      ∀ i ∈ Region.ready md ops l, wpOp P ops Q i (fun a' w' => (n ≤ i ∨ S w') ∧ AnyV P md ops Q S n f (l.setIfInBounds i true) a' w') a w
theorem AnyV.any (f : Nat) : ∀ (l : Array Bool) (a : Act) (w : World), AnyV P md ops Q S n f l a w → wpAny P md ops Q f l a w := by
  induction f with
  | zero => exact fun l a w h => h
  | succ f ih => exact fun l a w h => ⟨h.1, fun i hi => wpOp_mono (fun a' w' g => ih _ a' w' g.2) (h.2 i hi)⟩
/-- who comes up ahead of i leaves i alone -/
def Alone (md : Region.Mode) (ops : Array Oper) (l : Array Bool) (i : Nat) (oi : Oper) : Prop :=
  ∀ j oj, ops[j]? = some oj → j ≠ i → l.getD j true = false → (∀ e ∈ oj.after, Region.binds md e = true → e.on ≠ i) → oi.apart ops oj = true
theorem Alone.set {l : Array Bool} {i j : Nat} {oi : Oper} (h : Alone md ops l i oi) (hj : l.getD j true = false) : Alone md ops (l.setIfInBounds j true) i oi := by
  intro k ok hk hki hu hno
  refine h k ok hk hki ?_ hno
  by_cases e : j = k
  · rw [← e]; exact hj
  · rwa [getD_set_ne true e] at hu
theorem unlisted {l : Array Bool} {i : Nat} (h : l.getD i true = false) : l.getD i false = false := by
  cases hx : l[i]? with
  | none => simp [Array.getD_eq_getD_getElem?, hx]
  | some b => simp [Array.getD_eq_getD_getElem?, hx] at h ⊢; exact h
/-- all from number n on wait for i -/
def lateAll (md : Region.Mode) (ops : Array Oper) (n i : Nat) : Bool := (List.range ops.size).all fun j => decide (j < n) || Region.waitsFor md ops j i
theorem AnyV.take_aux {i : Nat} {oi : Oper} {v : Value} (hi : ops[i]? = some oi) (hsel : ∀ (j : Nat) (o : Oper) cs b, ops[j]? = some o → o.op ≠ .select cs b)
    (hQ : ∀ c a w, Q (.panic c) (a.put oi.dst v) w → Q (.panic c) a w) (hn : lateAll md ops n i = true) (f : Nat) :
    ∀ (l : Array Bool) (a : Act) (w : World), Alone md ops l i oi → i ∈ Region.ready md ops l → YieldsIf P ops S oi v a → S w →
      AnyV P md ops Q S n f (l.setIfInBounds i true) (a.put oi.dst v) w → AnyV P md ops Q S n (f + 1) l a w := by
  have last : ∀ (l : Array Bool) (j : Nat), i ∈ Region.ready md ops l → n ≤ j → j ∉ Region.ready md ops l := by
    intro l j h1 hnj h2
    obtain ⟨_, o2, ho2, hall⟩ := mem_ready.1 h2
    have hjs : j < ops.size := (Array.getElem?_eq_some_iff.1 ho2).1
    have hw : Region.waitsFor md ops j i = true := by
      have := List.all_eq_true.1 hn j (List.mem_range.2 hjs)
      rw [Bool.or_eq_true, decide_eq_true_eq] at this
      exact this.resolve_left (by omega)
    obtain ⟨on, hon, e, he, hb, heq⟩ := Region.waitsFor_spec hw
    obtain rfl : o2 = on := Option.some.inj (ho2.symm.trans hon)
    have h3 := hall e he hb
    rw [heq, unlisted (mem_ready.1 h1).1] at h3
    cases h3
  induction f with
  | zero =>
    intro l a w _ hr hy hS H
    refine ⟨fun h => (by rw [h] at hr; cases hr), fun j hj => ?_⟩
    by_cases e : j = i
    · subst e
      exact hy.wpOp hi hS ⟨.inr hS, H⟩
    · have hj2 := ready_mono hj e
      rw [H.1] at hj2
      cases hj2
  | succ f ih =>
    intro l a w hA hr hy hS H
    refine ⟨fun h => (by rw [h] at hr; cases hr), fun j hj => ?_⟩
    by_cases e : j = i
    · subst e
      exact hy.wpOp hi hS ⟨.inr hS, H⟩
    obtain ⟨hju, oj, hoj, hall⟩ := mem_ready.1 hj
    have hno : ∀ e ∈ oj.after, Region.binds md e = true → e.on ≠ i := by
      intro e he hb heq
      have h3 := hall e he hb
      rw [heq, unlisted (mem_ready.1 hr).1] at h3
      cases h3
    have hjn : ¬ n ≤ j := fun h => last l j hr h hj
    have step := wpOp_putIf hoj (hA j oj hoj e hju hno) (fun cs b => hsel i oi cs b hi) (fun cs b => hsel j oj cs b hoj) hQ hy (H.2 j (ready_mono hj e))
    refine wpOp_mono (fun a' w' g => ?_) step
    have hS' : S w' := g.2.1.resolve_left hjn
    refine ⟨.inr hS', ih _ a' w' (hA.set hju) (ready_mono hr (Ne.symm e)) g.1 hS' ?_⟩
    rw [Array.setIfInBounds_comm _ _ e]
    exact g.2.2
theorem AnyV.take {i : Nat} {oi : Oper} {v : Value} {f : Nat} {l : Array Bool} {a : Act} {w : World} (hi : ops[i]? = some oi) (hs : Region.noSelect ops = true) (hf : Region.free md ops l i = true) (hr : (Region.ready md ops l).contains i = true)
    (hn : lateAll md ops n i = true) (hQ : ∀ c a w, Q (.panic c) (a.put oi.dst v) w → Q (.panic c) a w) (hy : YieldsIf P ops S oi v a) (hS : S w)
    (h : AnyV P md ops Q S n f (l.setIfInBounds i true) (a.put oi.dst v) w) : AnyV P md ops Q S n (f + 1) l a w :=
  AnyV.take_aux hi (Region.noSelect_spec hs) hQ hn f l a w (fun j oj h1 h2 h3 h4 => Region.free_spec hi hf j oj h1 h2 h3 h4) (by simpa using hr) hy hS h
/-- one operation alone may come up -/
theorem AnyV.one (i : Nat) {o : Oper} {f : Nat} {l : Array Bool} {a : Act} {w : World} (hr : Region.ready md ops l = [i]) (ho : ops[i]? = some o)
    (h : ∀ K : Act → World → Prop, Shut (∀ a w, (n ≤ i ∨ S w) → ((n ≤ i ∨ S w) → AnyV P md ops Q S n f (l.setIfInBounds i true) a w) → K a w) → if Region.wanted o (yielded ops a.tmps) = true then Oper.wp P o a w K Q else K (a.put o.dst undef) w) :
    AnyV P md ops Q S n (f + 1) l a w := by
  refine ⟨fun h0 => (by rw [h0] at hr; cases hr), fun j hj => ?_⟩
  rw [hr] at hj
  obtain rfl := List.mem_singleton.1 hj
  exact wpOp_step ho (fun K hK => h K (fun a w hS hW => hK a w ⟨hS, hW hS⟩))
theorem AnyV.region {id : Nat} {a : Act} {w : World} (n : Nat) (S : World → Prop) (hm : P.follows .mixedOrders = true) (hS : S w.drew) (h : S w.drew → AnyV P .any ops Q S n ops.size (Array.replicate ops.size false) a w.drew) : (Code.region id ops true).wp P Q a w :=
  wp_region_any hm (AnyV.any _ _ _ _ (h hS))
/-- what is said of a panic does not hang on the slots -/
def QuietP (Q : Exit → Act → World → Prop) : Prop := ∀ c a a' w, a'.defers = a.defers → Q (.panic c) a' w → Q (.panic c) a w
theorem quiet_then {K : Act → World → Prop} (h : QuietP Q) : QuietP (Exit.then K Q) := fun c a a' w e g => h c a a' w e g
theorem quiet_block {id : Nat} (h : QuietP Q) : QuietP (Exit.inBlock id Q) := fun c a a' w e g => h c a a' w e g
theorem quiet_body {fn : Func} {R : Ending → World → Prop} : QuietP (bodyPost P fn R) := fun _ _ _ _ e g => ⟨e ▸ g.1, g.2⟩
theorem put_defers (a : Act) (d : Option Tmp) (v : Value) : (a.put d v).defers = a.defers := by cases d <;> rfl
theorem AnyV.next {i : Nat} {oi : Oper} {d : Tmp} {v : Value} {f : Nat} {l : Array Bool} {ts : Array Value} {ds : List Deferred} {w : World} (hq : QuietP Q) (hs : Region.noSelect ops = true) (hS : S w) (hi : ops[i]? = some oi) (hd : oi.dst = some d)
    (hk : (Region.free md ops l i && ((Region.ready md ops l).contains i && lateAll md ops n i)) = true) (hy : YieldsIf P ops S oi v ⟨ts, ds⟩)
    (h : AnyV P md ops Q S n f (l.setIfInBounds i true) ⟨ts.setIfInBounds d v, ds⟩ w) : AnyV P md ops Q S n (f + 1) l ⟨ts, ds⟩ w := by
  simp only [Bool.and_eq_true] at hk
  refine AnyV.take hi hs hk.1 hk.2.1 hk.2.2 (fun c a w h => hq c a _ w (put_defers _ _ _) h) hy hS ?_
  rw [hd]
  exact h
theorem AnyV.regionQ {id : Nat} {a : Act} {w : World} (n N : Nat) (S : World → Prop) (hN : ops.size = N) (hm : P.follows .mixedOrders = true) (hs : Region.noSelect ops = true) (hq : QuietP Q) (hS : S w.drew)
    (h : ∀ Q' : Exit → Act → World → Prop, Shut (∀ a w, Q .normal a w → Q' .normal a w) → QuietP Q' → Region.noSelect ops = true → S w.drew → AnyV P .any ops Q' S n N (Array.replicate N false) a w.drew) : (Code.region id ops true).wp P Q a w :=
  have h0 : ∀ a w, Q .normal a w → Q .normal a w := fun _ _ h => h
  by subst hN; exact wp_region_any hm (AnyV.any _ _ _ _ (h Q h0 hq hs hS))
theorem AnyV.done {f : Nat} {l : Array Bool} {a : Act} {w : World} (hr : Region.ready md ops l = []) (h : Q .normal a w) : AnyV P md ops Q S n f l a w := by
  cases f with
  | zero => exact ⟨hr, h⟩
  | succ f => exact ⟨fun _ => h, fun i hi => by rw [hr] at hi; cases hi⟩
end
def USomeV (P : Program) (md : Region.Mode) (ops : Array Oper) (Q : Exit → Act → World → Prop) (S : World → Prop) (n f : Nat) (l : Array Bool) (a : Act) (w : World) (i : Nat) : Prop :=
  wpOp P ops Q i (fun a' w' => (n ≤ i ∨ S w') ∧ AnyV P md ops Q S n f (l.setIfInBounds i true) a' w') a w
section
variable {P : Program} {md : Region.Mode} {ops : Array Oper} {Q : Exit → Act → World → Prop} {S : World → Prop} {n f : Nat} {l : Array Bool} {a : Act} {w : World} {i j m : Nat}
theorem USomeV.mk {o : Oper} (ho : ops[i]? = some o)
    (h : ∀ K : Act → World → Prop, Shut (∀ a w, (n ≤ i ∨ S w) → ((n ≤ i ∨ S w) → AnyV P md ops Q S n f (l.setIfInBounds i true) a w) → K a w) → if Region.wanted o (yielded ops a.tmps) = true then Oper.wp P o a w K Q else K (a.put o.dst undef) w) : USomeV P md ops Q S n f l a w i :=
  wpOp_step ho (fun K hK => h K (fun a w hS hW => hK a w ⟨hS, hW hS⟩))
theorem AnyV.two (hr : Region.ready md ops l = [i, j]) (h1 : USomeV P md ops Q S n f l a w i) (h2 : USomeV P md ops Q S n f l a w j) : AnyV P md ops Q S n (f + 1) l a w :=
  ⟨fun h0 => (by rw [h0] at hr; cases hr), fun k hk => by
    rw [hr] at hk
    simp only [List.mem_cons, List.not_mem_nil, or_false] at hk
    rcases hk with rfl | rfl
    · exact h1
    · exact h2⟩
end
end Go.Proofs.YtilhnjecnhpmlaaDoor
namespace Go.Proofs.YtilhnjecnhpmlaaDoor
open Go.RowKit

/-- a struct's cells from an offset on -/
def SO (w : World) (b o : Nat) (vs : List Value) : Prop := (∀ i v, vs[i]? = some v → w.cell? ⟨b, o + i, none⟩ = some v ∧ w.frozen? ⟨b, o + i, none⟩ = false) ∧ b < w.heap.size
/-- w2 is w1 but for eleven cells of block b, and for new blocks -/
structure Agr (n : Nat) (w1 w2 : World) (b o : Nat) : Prop where
  size : w1.heap.size ≤ w2.heap.size
  block : ∀ q, n + 2 ≤ q → q < w1.heap.size → q ≠ b → w2.heap[q]? = w1.heap[q]?
  cell : ∀ j, j < o ∨ o + 11 ≤ j → w2.cell? ⟨b, j, none⟩ = w1.cell? ⟨b, j, none⟩
section
variable {w w1 w2 w3 : World} {n b o : Nat} {vs : List Value}
theorem SO.cell (h : SO w b o vs) (i : Nat) {v : Value} (hv : vs[i]? = some v := by rfl) : w.cell? ⟨b, o + i, none⟩ = some v := (h.1 i v hv).1
theorem SO.frozen (h : SO w b o vs) (i : Nat) {v : Value} (hv : vs[i]? = some v := by rfl) : w.frozen? ⟨b, o + i, none⟩ = false := (h.1 i v hv).2
theorem SO.nx (h : SO w b o vs) (hb : Below w.heap.size w w2) : SO w2 b o vs :=
  ⟨fun i v hv => ⟨(hb.cell (p := ⟨b, o + i, none⟩) h.2).trans (h.1 i v hv).1, (hb.frozen (p := ⟨b, o + i, none⟩) h.2).trans (h.1 i v hv).2⟩, Nat.lt_of_lt_of_le h.2 hb.size⟩
theorem SO.set (h : SO w b o vs) (k : Nat) (v : Value) : SO (w.setCell ⟨b, o + k, none⟩ v) b o (vs.set k v) := by
  refine ⟨fun i x hx => ?_, by simpa [World.setCell] using h.2⟩
  rw [List.getElem?_set] at hx
  split at hx
  · rename_i e; subst e
    split at hx
    · rename_i hl
      injection hx with hx; subst hx
      have h0 := h.1 k _ (List.getElem?_eq_getElem hl)
      exact ⟨World.cell?_setCell_same w _ v h0.1, (World.frozen?_setCell w _ _ v).trans h0.2⟩
    · cases hx
  · rename_i e
    exact ⟨(World.cell?_setCell_other w _ _ v (fun e2 => e (by have := congrArg Addr.off e2; simp only at this; omega))).trans (h.1 i x hx).1, (World.frozen?_setCell w _ _ v).trans (h.1 i x hx).2⟩
theorem SO.range (h : SO w b o vs) : w.rangeAt b o vs := fun j u hj => (h.1 j u hj).1
theorem SB.so (h : SB w b vs) : SO w b 0 vs := ⟨fun i v hv => by rw [Nat.zero_add]; exact h.1 i v hv, h.2⟩
theorem Agr.refl (n : Nat) (w : World) (b o : Nat) : Agr n w w b o := ⟨Nat.le_refl _, fun _ _ _ _ => rfl, fun _ _ => rfl⟩
theorem Agr.nx (h : Agr n w1 w2 b o) (hb : Below w2.heap.size w2 w3) (hbl : b < w1.heap.size) : Agr n w1 w3 b o :=
  ⟨Nat.le_trans h.size hb.size, fun q h1 h2 h3 => (hb.block q (Nat.lt_of_lt_of_le h2 h.size)).trans (h.block q h1 h2 h3), fun j hj => (hb.cell (p := ⟨b, j, none⟩) (Nat.lt_of_lt_of_le hbl h.size)).trans (h.cell j hj)⟩
theorem Agr.set (h : Agr n w1 w2 b o) (k : Nat) (hk : k < 11) (v : Value) : Agr n w1 (w2.setCell ⟨b, o + k, none⟩ v) b o :=
  ⟨by simpa [World.setCell] using h.size, fun q h1 h2 h3 => (Below.heap_setCell w2 ⟨b, o + k, none⟩ v q (fun e => h3 (by rw [e]))).trans (h.block q h1 h2 h3), fun j hj => (World.cell?_setCell_other w2 _ _ v (fun e2 => by have := congrArg Addr.off e2; simp only at this; omega)).trans (h.cell j hj)⟩
theorem Agr.new (h : Agr n w1 w2 b o) {g : Nat} (hg : w1.heap.size ≤ g) (hgb : g ≠ b) (p : Addr) (hp : p.block = g) (v : Value) : Agr n w1 (w2.setCell p v) b o :=
  ⟨by simpa [World.setCell] using h.size, fun q h1 h2 h3 => (Below.heap_setCell w2 p v q (fun e => by omega)).trans (h.block q h1 h2 h3), fun j hj => (World.cell?_setCell_other w2 _ _ v (fun e2 => hgb (by rw [← hp, e2]))).trans (h.cell j hj)⟩
theorem Agr.news (h : Agr n w1 w2 b o) {g : Nat} (hg : w1.heap.size ≤ g) (hgb : g ≠ b) (q : Nat) (cs : List Value) : Agr n w1 (w2.setCells g q cs) b o :=
  ⟨by rw [size_sc]; exact h.size, fun k h1 h2 h3 => (World.heap_setCells_other w2 g q cs (Nat.lt_of_lt_of_le h2 h.size) (by omega)).trans (h.block k h1 h2 h3), fun j hj => (World.cell?_setCells_out g cs q w2 ⟨b, j, none⟩ (fun e _ => absurd e.symm hgb)).trans (h.cell j hj)⟩
end
theorem below_cs {w w' : World} {B b : Nat} (h : Below B w w') (hb : B ≤ b) (cs : List Value) : Below B w (w'.setCells b 0 cs) :=
  ⟨(World.os_setCells w' b 0 cs).trans h.os, (tape_sc b cs 0 w').trans h.tape, (World.output_setCells w' b 0 cs).trans h.output, by rw [size_sc]; exact h.size, fun i hi => by
    by_cases hlt : i < w'.heap.size
    · exact (World.heap_setCells_other w' b 0 cs hlt (by omega)).trans (h.block i hi)
    · rw [Array.getElem?_eq_none (by rw [size_sc]; omega), ← h.block i hi, Array.getElem?_eq_none (by omega)]⟩
theorem SO.sets {w : World} {b o : Nat} {vs : List Value} (h : SO w b o vs) (k : Nat) (cs : List Value) (hk : k + cs.length ≤ vs.length) : SO (w.setCells b (o + k) cs) b o (vs.take k ++ cs ++ vs.drop (k + cs.length)) := by
  have hs : ∀ j, j < cs.length → (w.cell? ⟨b, o + k + j, none⟩).isSome = true := fun j hj => by
    have := (h.1 (k + j) _ (List.getElem?_eq_getElem (by omega))).1
    rw [Nat.add_assoc, this]; rfl
  refine ⟨fun i v hv => ?_, by rw [size_sc]; exact h.2⟩
  rw [World.frozen?_setCells]
  have hl : (vs.take k).length = k := by rw [List.length_take]; omega
  by_cases h1 : i < k
  · rw [List.append_assoc, List.getElem?_append_left (by omega), List.getElem?_take, if_pos h1] at hv
    exact ⟨(World.cell?_setCells_out b cs (o + k) w ⟨b, o + i, none⟩ (fun _ _ => .inl (by simp only; omega))).trans (h.1 i v hv).1, (h.1 i v hv).2⟩
  · by_cases h2 : i < k + cs.length
    · rw [List.append_assoc, List.getElem?_append_right (by omega), hl, List.getElem?_append_left (by omega)] at hv
      have h3 := World.cell?_setCells_in b cs (o + k) w hs (i - k) (by omega)
      rw [show o + k + (i - k) = o + i by omega] at h3
      refine ⟨h3.trans ((List.getElem?_eq_getElem (by omega)).symm.trans hv), ?_⟩
      exact (h.1 i _ (List.getElem?_eq_getElem (by omega))).2
    · rw [List.getElem?_append_right (by rw [List.length_append]; omega), List.length_append, hl, List.getElem?_drop, show k + cs.length + (i - (k + cs.length)) = i by omega] at hv
      exact ⟨(World.cell?_setCells_out b cs (o + k) w ⟨b, o + i, none⟩ (fun _ _ => .inr (by simp only; omega))).trans (h.1 i v hv).1, (h.1 i v hv).2⟩
theorem Agr.sets {n : Nat} {w1 w2 : World} {b o : Nat} (h : Agr n w1 w2 b o) (k : Nat) (cs : List Value) (hk : k + cs.length ≤ 11) : Agr n w1 (w2.setCells b (o + k) cs) b o :=
  ⟨by rw [size_sc]; exact h.size, fun q h1 h2 h3 => (World.heap_setCells_other w2 b (o + k) cs (Nat.lt_of_lt_of_le h2 h.size) (by omega)).trans (h.block q h1 h2 h3), fun j hj => (World.cell?_setCells_out b cs (o + k) w2 ⟨b, j, none⟩ (fun _ _ => by simp only; omega)).trans (h.cell j hj)⟩
theorem SB.scs {w : World} {g b : Nat} {vs : List Value} (h : SB w g vs) (hne : g ≠ b) (o : Nat) (cs : List Value) : SB (w.setCells b o cs) g vs := by
  refine ⟨fun i v hv => ?_, by have := h.2; rw [size_sc]; exact this⟩
  obtain ⟨h1, h2⟩ := h.1 i v hv
  exact ⟨(World.cell?_setCells_out b cs o w ⟨g, i, none⟩ (fun e => absurd e hne)).trans h1, (World.frozen?_setCells b cs o w _).trans h2⟩
theorem below_cso {w w' : World} {B b : Nat} (h : Below B w w') (hb : B ≤ b) (o : Nat) (cs : List Value) : Below B w (w'.setCells b o cs) :=
  ⟨(World.os_setCells w' b o cs).trans h.os, (tape_sc b cs o w').trans h.tape, (World.output_setCells w' b o cs).trans h.output, by rw [size_sc]; exact h.size, fun i hi => by
    by_cases hlt : i < w'.heap.size
    · exact (World.heap_setCells_other w' b o cs hlt (by omega)).trans (h.block i hi)
    · rw [Array.getElem?_eq_none (by rw [size_sc]; omega), ← h.block i hi, Array.getElem?_eq_none (by omega)]⟩
/-- blocks between -/
def Bet (lo hi p : Nat) : Prop := lo ≤ p ∧ p < hi
/-- the blocks of a copy -/
def Own (n : Nat) (w : World) (b : Nat) : Prop := n + 2 < b ∧ b < w.heap.size
/-- what a filled hole makes -/
def Hole (n : Nat) (wx : World) (b o : Nat) (q d : Dat) : Prop :=
  ∀ (w2 : World) (cs2 : List Value), Agr n wx w2 b o → cs2.length = 11 → w2.rangeAt b o cs2 → RDP w2 (Own n w2) q (.agg cs2.toArray) → ∃ cs0 : List Value, cs0.length = 11 ∧ w2.rangeAt (n + 2) 0 cs0 ∧ RDP w2 (Own n w2) d (.agg cs0.toArray)
theorem noR_nil {r : Rw} (h : noR r = true) : r = ⟨false, [], []⟩ := noR_eq h
theorem WP.nil (w : World) (P : Nat → Prop) (A : Option Addr) (c : Nat) : WP w P A c [] := ⟨⟨by simp, by simp, fun h => by simp at h⟩, B32_nil⟩
theorem WP.new {w : World} {base : Nat} {A : Option Addr} {c : Nat} {l : List Nat} (h : OW w base A c l) : WP w (Bet base w.heap.size) A c l := by
  refine ⟨⟨h.lc, h.big, fun h0 => ?_⟩, h.b32⟩
  rcases h.form with ⟨_, _, rfl⟩ | ⟨g, rfl, h1, h2, _⟩
  · simp at h0
  · exact ⟨g, 0, rfl, ⟨h1, h2⟩, fun k x hk => by rw [Nat.zero_add]; have := h.1.cell hk; exact this⟩
theorem BP.new {w : World} {base : Nat} {A : Option Addr} {c : Nat} {l : List UInt8} (h : OB w base A c l) : RLP f8 w (Bet base w.heap.size) A c l := by
  refine ⟨OL.lc h, OL.big h, fun h0 => ?_⟩
  rcases OL.form h with ⟨_, _, rfl⟩ | ⟨g, rfl, h1, h2, _⟩
  · simp at h0
  · exact ⟨g, 0, rfl, ⟨h1, h2⟩, fun k x hk => by rw [Nat.zero_add]; exact OL.cell h hk⟩
theorem RLP.nx {α : Type} {f : α → Value} {w w' : World} {lo : Nat} {A : Option Addr} {c : Nat} {l : List α} (h : RLP f w (Bet lo w.heap.size) A c l) (hb : Below w.heap.size w w') : RLP f w' (Bet lo w'.heap.size) A c l :=
  h.step (fun p hp => hb.block p hp.2) (fun _ hp => ⟨hp.1, Nat.lt_of_lt_of_le hp.2 hb.size⟩)
theorem WP.nx {w w' : World} {lo : Nat} {A : Option Addr} {c : Nat} {l : List Nat} (h : WP w (Bet lo w.heap.size) A c l) (hb : Below w.heap.size w w') : WP w' (Bet lo w'.heap.size) A c l := ⟨h.1.nx hb, h.2⟩
theorem RLP.sc {α : Type} {f : α → Value} {w : World} {lo hi b : Nat} {A : Option Addr} {c : Nat} {l : List α} (h : RLP f w (Bet lo hi) A c l) (hi' : hi ≤ w.heap.size) (hb : b < lo ∨ hi ≤ b) (o : Nat) (cs : List Value) : RLP f (w.setCells b o cs) (Bet lo hi) A c l :=
  h.step (fun p hp => World.heap_setCells_other w b o cs (Nat.lt_of_lt_of_le hp.2 hi') (by have h1 := hp.1; have h2 := hp.2; omega)) (fun p hp => hp)
theorem WP.sc {w : World} {lo hi b : Nat} {A : Option Addr} {c : Nat} {l : List Nat} (h : WP w (Bet lo hi) A c l) (hi' : hi ≤ w.heap.size) (hb : b < lo ∨ hi ≤ b) (o : Nat) (cs : List Value) : WP (w.setCells b o cs) (Bet lo hi) A c l := ⟨h.1.sc hi' hb o cs, h.2⟩
theorem Below.both {n : Nat} {w w1 w2 : World} (h1 : Below n w w1) (h2 : Below n w w2) (hs : w1.heap.size ≤ w2.heap.size) : Below n w1 w2 :=
  ⟨h2.os.trans h1.os.symm, h2.tape.trans h1.tape.symm, h2.output.trans h1.output.symm, hs, fun i hi => (h2.block i hi).trans (h1.block i hi).symm⟩
theorem SO.scs {w : World} {g b o : Nat} {vs : List Value} (h : SO w b o vs) (hne : b ≠ g) (k : Nat) (cs : List Value) : SO (w.setCells g k cs) b o vs := by
  refine ⟨fun i v hv => ?_, by have := h.2; rw [size_sc]; exact this⟩
  obtain ⟨h1, h2⟩ := h.1 i v hv
  exact ⟨(World.cell?_setCells_out g cs k w ⟨b, o + i, none⟩ (fun e => absurd e hne)).trans h1, (World.frozen?_setCells g cs k w _).trans h2⟩
theorem there_nx {w w2 : World} {g o k : Nat} (h : w.there g o k) (hb : Below w.heap.size w w2) (hg : g < w.heap.size) : w2.there g o k := fun j hj =>
  ⟨by rw [hb.cell (p := ⟨g, o + j, none⟩) hg]; exact (h j hj).1, (hb.frozen (p := ⟨g, o + j, none⟩) hg).trans (h j hj).2⟩
theorem range_nx {w w2 : World} {g o : Nat} {cs : List Value} (h : w.rangeAt g o cs) (hb : Below w.heap.size w w2) (hg : g < w.heap.size) : w2.rangeAt g o cs := fun j u hj => (hb.cell (p := ⟨g, o + j, none⟩) hg).trans (h j u hj)
theorem RDP.agg {w : World} {P : Nat → Prop} {d : Dat} {v : Value} (h : RDP w P d v) : ∃ cs : List Value, v = .agg cs.toArray ∧ cs.length = 11 ∧ ∀ u ∈ cs, u.oneCell' = true := by
  cases d
  rw [RDP] at h
  obtain ⟨A1, c1, D1, d1, A2, c2, D2, d2, R, rc, L, lc, e, -⟩ := h
  refine ⟨_, e, rfl, fun u hu => ?_⟩
  simp only [List.mem_cons, List.not_mem_nil, or_false] at hu
  rcases hu with rfl | rfl | rfl | rfl | rfl | rfl | rfl | rfl | rfl | rfl | rfl <;> rfl
/-- a datum stored at an offset -/
theorem wp_stDo {ops : Array Oper} {rest : List Oper} {o : Oper} {a : Act} {w : World} {Q : Exit → Act → World → Prop} (hgd : o.guard = none) (hdn : o.dst = none) (x y : Operand) (ho : o.op = .store 31 x y)
    (b off : Nat) (hx : a.eval x = .pointer (some ⟨b, off, none⟩)) (cs : List Value) (hy : a.eval y = .agg cs.toArray) (hl : cs.length = 11) (hT : w.there b off 11) (h1 : ∀ v ∈ cs, v.oneCell' = true)
    (h : wpList Tryd.prog ops Q rest a (w.setCells b off cs)) : wpList Tryd.prog ops Q (o :: rest) a w :=
  wpList_store_mid hgd 31 x y ho b off cs.toArray hx hy (fun j hj => hT j (by simpa [hl] using hj)) (by rw [infoD]; simp [hl]) (all_oneCell_toArray h1) (by rw [hdn]; exact h)
theorem step_stDo {ops : Array Oper} {o : Oper} {a : Act} {w : World} {K : Act → World → Prop} {Q : Exit → Act → World → Prop} {E : Prop} (hgd : o.guard = none) (hdn : o.dst = none) (x y : Operand) (ho : o.op = .store 31 x y)
    (b off : Nat) (hx : a.eval x = .pointer (some ⟨b, off, none⟩)) (cs : List Value) (hy : a.eval y = .agg cs.toArray) (hl : cs.length = 11) (hT : w.there b off 11) (h1 : ∀ v ∈ cs, v.oneCell' = true)
    (h : K a (w.setCells b off cs)) : if Region.wanted o (yielded ops a.tmps) = true then Oper.wp Tryd.prog o a w K Q else E := by
  rw [if_pos (by simp [Region.wanted, hgd])]
  exact wp_store_mid 31 x y ho b off cs.toArray hx hy (fun j hj => hT j (by simpa [hl] using hj)) (by rw [infoD]; simp [hl]) (all_oneCell_toArray h1) (by rw [hdn]; exact h)
theorem there_far {w : World} {g b o k : Nat} (h : w.there g o k) (hne : g ≠ b) (q : Nat) (cs : List Value) : (w.setCells b q cs).there g o k := fun j hj =>
  ⟨by rw [World.cell?_setCells_out b cs q w ⟨g, o + j, none⟩ (fun e => absurd e hne)]; exact (h j hj).1, by rw [World.frozen?_setCells]; exact (h j hj).2⟩
theorem RDP.sc {w : World} {lo hi b : Nat} {d : Dat} {v : Value} (h : RDP w (Bet lo hi) d v) (hi' : hi ≤ w.heap.size) (hb : b < lo ∨ hi ≤ b) (o : Nat) (cs : List Value) : RDP (w.setCells b o cs) (Bet lo hi) d v :=
  h.step (fun p hp => World.heap_setCells_other w b o cs (Nat.lt_of_lt_of_le hp.2 hi') (by have h1 := hp.1; have h2 := hp.2; omega)) (fun p hp => hp)
theorem RDP.nx {w w' : World} {lo : Nat} {d : Dat} {v : Value} (h : RDP w (Bet lo w.heap.size) d v) (hb : Below w.heap.size w w') : RDP w' (Bet lo w'.heap.size) d v :=
  h.step (fun p hp => hb.block p hp.2) (fun _ hp => ⟨hp.1, Nat.lt_of_lt_of_le hp.2 hb.size⟩)
theorem pair_two2 {valid : ByteArray → Bool} {d : Dat} (h : d.shape valid = true) (hk : d.k = 8) : ∃ x y, d.l = [x, y] := by
  unfold Dat.shape at h
  simp only [Bool.and_eq_true] at h
  have h5 := h.2.2.2.2
  rw [if_pos hk, Bool.and_eq_true, decide_eq_true_eq, decide_eq_true_eq] at h5
  match hl : d.l, h5.2 with
  | [x, y], _ => exact ⟨x, y, rfl⟩
theorem RLP.nil {α : Type} (f : α → Value) (w : World) (P : Nat → Prop) (A : Option Addr) (c : Nat) : RLP f w P A c [] := ⟨by simp, by simp, fun h => by simp at h⟩
/-- a part of what stands -/
theorem there_sub {w : World} {b o k o2 k2 : Nat} (h : w.there b o k) (h1 : o ≤ o2) (h2 : o2 + k2 ≤ o + k) : w.there b o2 k2 := fun j hj => by
  have := h (o2 - o + j) (by omega)
  rwa [show o + (o2 - o + j) = o2 + j by omega] at this
/-- sound nodes, their lists small -/
inductive Dat.Fit (v : ByteArray → Bool) : Dat → Prop where
  | mk {d : Dat} (h : d.shape v = true) (hn : d.l.length ≤ 20000) (hl : ∀ x ∈ d.l, x.Fit v) : d.Fit v
theorem Dat.Fit.shape {v : ByteArray → Bool} {d : Dat} (h : d.Fit v) : d.shape v = true := by cases h; assumption
theorem Dat.Fit.len {v : ByteArray → Bool} {d : Dat} (h : d.Fit v) : d.l.length ≤ 20000 := by cases h; assumption
theorem Dat.Fit.kids {v : ByteArray → Bool} {d : Dat} (h : d.Fit v) : ∀ x ∈ d.l, x.Fit v := by cases h; assumption
theorem cntL_len (v : ByteArray → Bool) : ∀ (l : List Dat) (p : Bool) (i depth : Nat) (left : Int), 0 ≤ left → 0 ≤ cntL v l p i depth left → (l.length : Int) ≤ left
  | [], p, i, depth, left, h, h2 => by simpa using h
  | x :: xs, p, i, depth, left, h, h2 => by
    rw [cntL] at h2
    rcases Dat.cnt_le v x (inner p i depth) left with h1 | h1
    · rw [h1, cntL_neg] at h2; omega
    · have := cntL_len v xs p (i + 1) depth _ h1.1 h2
      simp only [List.length_cons]
      omega
mutual
theorem Dat.fit_of (v : ByteArray → Bool) : ∀ (d : Dat) (depth : Nat) (left : Int), left ≤ 20000 → 0 ≤ d.cnt v depth left → d.Fit v
  | .mk k n re im t raw l => fun depth left h20 h => by
    rw [Dat.cnt] at h
    by_cases hc : 200 < depth ∨ left ≤ 0 ∨ (Dat.mk k n re im t raw l).shape v = false
    · rw [if_pos hc] at h; omega
    · rw [if_neg hc] at h
      simp only [not_or] at hc
      have hlen := cntL_len v l _ _ _ _ (by omega) h
      exact .mk (by simpa using hc.2.2) (by show l.length ≤ 20000; omega) (fitL_of v l _ _ _ _ (by omega) (by omega) h)
theorem fitL_of (v : ByteArray → Bool) : ∀ (l : List Dat) (p : Bool) (i depth : Nat) (left : Int), 0 ≤ left → left ≤ 20000 → 0 ≤ cntL v l p i depth left → ∀ x ∈ l, x.Fit v
  | [] => fun _ _ _ _ _ _ _ x hx => by cases hx
  | y :: ys => fun p i depth left hl h20 h x hx => by
    rw [cntL] at h
    have hy : 0 ≤ y.cnt v (inner p i depth) left := by
      rcases Dat.cnt_le v y (inner p i depth) left with h1 | h1
      · rw [h1, cntL_neg] at h; omega
      · exact h1.1
    rcases List.mem_cons.1 hx with e | hx
    · rw [e]; exact Dat.fit_of v y _ _ h20 hy
    · have := Dat.cnt_le v y (inner p i depth) left
      exact fitL_of v ys p (i + 1) depth _ hy (by omega) h x hx
end
theorem Dat.sound_fit {v : ByteArray → Bool} {d : Dat} (h : d.sound v = true) : d.Fit v := Dat.fit_of v d 1 20000 (Int.le_refl _) (by unfold Dat.sound at h; simpa using h)
theorem step_ldN {ops : Array Oper} {o : Oper} {a : Act} {w : World} {K : Act → World → Prop} {Q : Exit → Act → World → Prop} {E : Prop} (hgd : o.guard = none) (x : Operand) (ho : o.op = .load 28 x)
    (b off : Nat) (hx : a.eval x = .pointer (some ⟨b, off, none⟩)) (cs : List Value) (hc : w.rangeAt b off cs) (hl : cs.length = 6)
    (h : K (a.put o.dst (.agg cs.toArray)) w) : if Region.wanted o (yielded ops a.tmps) = true then Oper.wp Tryd.prog o a w K Q else E := by
  rw [if_pos (by simp [Region.wanted, hgd])]
  exact wp_load_mid 28 x ho b off hx cs _ hc Tryd.underlying28 rfl (infoN.trans (by rw [hl])) h
/-- a number stored at an offset, as one operation of a drawn region -/
theorem step_stN {ops : Array Oper} {o : Oper} {a : Act} {w : World} {K : Act → World → Prop} {Q : Exit → Act → World → Prop} {E : Prop} (hgd : o.guard = none) (hdn : o.dst = none) (x y : Operand) (ho : o.op = .store 28 x y)
    (b off k : Nat) (hx : a.eval x = .pointer (some ⟨b, off + k, none⟩)) (cs : List Value) (hy : a.eval y = .agg cs.toArray) (hl : cs.length = 6) (vs : List Value) (hS : SO w b off vs) (hl' : k + 6 ≤ vs.length) (h1 : ∀ v ∈ cs, v.oneCell' = true)
    (h : K a (w.setCells b (off + k) cs)) : if Region.wanted o (yielded ops a.tmps) = true then Oper.wp Tryd.prog o a w K Q else E := by
  rw [if_pos (by simp [Region.wanted, hgd])]
  refine wp_store_mid 28 x y ho b (off + k) cs.toArray hx hy (fun j hj => by
      have hj' : j < 6 := by simpa [hl] using hj
      have h2 := hS.1 (k + j) _ (List.getElem?_eq_getElem (by omega))
      rw [Nat.add_assoc]
      exact ⟨by rw [h2.1]; rfl, h2.2⟩) (by rw [infoN]; simp [hl]) (all_oneCell_toArray h1) (by rw [hdn]; exact h)
theorem add_zero_q {r i : Rw} (h : nB r i = true) : qaddA r i (rwq 0) (rwq 0) = (r, i, 0) := by
  obtain ⟨x, y, rfl, rfl, h1, h2⟩ := nB_rat h
  unfold qaddA
  rw [if_pos ⟨h, nB_rwq (by decide +kernel) (by decide +kernel)⟩, qv_rwq, qv_rwq, qv_rwq]
  rw [show x + 0 = x by grind, show y + 0 = y by grind]
  exact fitQ_ok h1 h2
end Go.Proofs.YtilhnjecnhpmlaaDoor
namespace Go.Proofs.YtilhnjecnhpmlaaDoor
open Go.RowKit

/-- a slice of data in memory, all of it in blocks of P -/
def RLs (w : World) (P : Nat → Prop) (A : Option Addr) (c : Nat) (l : List Dat) : Prop := l.length ≤ c ∧ l.length ≤ 35184372088832 ∧ (0 < l.length → ∃ b off, A = some ⟨b, off, none⟩ ∧ P b ∧ RDPs w P l b off)
theorem RLs.step {w w' : World} {P P' : Nat → Prop} {A : Option Addr} {c : Nat} {l : List Dat} (h : RLs w P A c l) (hb : ∀ b, P b → w'.heap[b]? = w.heap[b]?) (hP : ∀ b, P b → P' b) : RLs w' P' A c l :=
  ⟨h.1, h.2.1, fun h0 => by obtain ⟨b, off, e, h1, h2⟩ := h.2.2 h0; exact ⟨b, off, e, hP b h1, RDPs.step hb hP h1 h2⟩⟩
theorem RDPs.get {w : World} {P : Nat → Prop} : ∀ {l : List Dat} {b off : Nat}, RDPs w P l b off → ∀ {i : Nat} {x : Dat}, l[i]? = some x → ∃ v, RDP w P x v ∧ ∀ cs, v = .agg cs → ∀ j u, cs[j]? = some u → w.cell? ⟨b, off + i * 11 + j, none⟩ = some u
  | [], _, _, _, _, _, h => by cases h
  | y :: ys, b, off, h, 0, x, hx => by
    rw [RDPs] at h
    obtain rfl : y = x := by simpa using hx
    simpa using h.1
  | y :: ys, b, off, h, i + 1, x, hx => by
    rw [RDPs] at h
    obtain ⟨v, h1, h2⟩ := RDPs.get h.2 (i := i) (by simpa using hx)
    exact ⟨v, h1, fun cs e j u hj => by rw [show off + (i + 1) * 11 + j = off + 11 + i * 11 + j by omega]; exact h2 cs e j u hj⟩
mutual
theorem RD.rdp {w : World} {B : Nat} : ∀ {d : Dat} {v : Value}, RD w B d v → RDP w (fun b => b < B) d v
  | .mk k n re im t raw l, v, h => by
    rw [RD] at h
    rw [RDP]
    obtain ⟨A1, c1, D1, d1, A2, c2, D2, d2, R, rc, L, lc, e, ⟨h1, h2, h3, h4, h5⟩, hn, hl, hd⟩ := h
    refine ⟨A1, c1, D1, d1, A2, c2, D2, d2, R, rc, L, lc, e, ⟨⟨h1.1, h1.2⟩, ⟨h2.1, h2.2⟩, ⟨h3.1, h3.2⟩, ⟨h4.1, h4.2⟩, h5⟩, hn, hl, fun h0 => ?_⟩
    obtain ⟨b, off, e1, e2, e3⟩ := hd h0
    exact ⟨b, off, e1, e2, RDs.rdp e3⟩
theorem RDs.rdp {w : World} {B : Nat} : ∀ {l : List Dat} {b off : Nat}, RDs w B l b off → RDPs w (fun b => b < B) l b off
  | [], b, off, _ => by rw [RDPs]; trivial
  | x :: xs, b, off, h => by
    rw [RDs] at h
    rw [RDPs]
    obtain ⟨⟨v, h1, h2⟩, h3⟩ := h
    exact ⟨⟨v, RD.rdp h1, h2⟩, RDs.rdp h3⟩
end
/-- a pair -/
def pairD (x y : Dat) : Dat := .mk 8 0 ⟨false, [], []⟩ ⟨false, [], []⟩ ByteArray.empty [] [x, y]
theorem pairD_ok (x y : Dat) : (-9223372036854775808 ≤ (pairD x y).k ∧ (pairD x y).k ≤ 9223372036854775807) ∧ (-9223372036854775808 ≤ (pairD x y).n ∧ (pairD x y).n ≤ 9223372036854775807) ∧ (pairD x y).t.size ≤ 1048576 :=
  ⟨⟨show (-9223372036854775808 : Int) ≤ 8 by decide, show (8 : Int) ≤ 9223372036854775807 by decide⟩, ⟨show (-9223372036854775808 : Int) ≤ 0 by decide, show (0 : Int) ≤ 9223372036854775807 by decide⟩, show (0 : Nat) ≤ 1048576 by decide⟩
def joinD (l : List Dat) (last : Dat) : Dat := l.foldr pairD last
theorem joinD_drop {l : List Dat} {k : Nat} (hk : k < l.length) (last : Dat) : joinD (l.drop k) last = pairD l[k] (joinD (l.drop (k + 1)) last) := by
  rw [List.drop_eq_getElem_cons hk]; rfl
/-- blocks that are handed in, and those made behind the call's own k -/
def Out (P : Nat → Prop) (n : Nat) (w : World) (b : Nat) : Prop := P b ∨ (n ≤ b ∧ b < w.heap.size)
theorem Out.lt {P : Nat → Prop} {n m : Nat} {w : World} {b : Nat} (h : Out P m w b) (hP : ∀ b, P b → b < n) (hn : n ≤ w.heap.size) : b < w.heap.size := h.elim (fun h => Nat.lt_of_lt_of_le (hP b h) hn) (fun h => h.2)
theorem Out.ne {P : Nat → Prop} {n m k : Nat} {w : World} {b : Nat} (h : Out P m w b) (hP : ∀ b, P b → b < n) (h1 : n ≤ k) (h2 : k < m) : b ≠ k := h.elim (fun h => by have := hP b h; omega) (fun h => by have := h.1; omega)
theorem Out.up {P : Nat → Prop} {n m : Nat} {w w' : World} {b : Nat} (h : Out P n w b) (hm : m ≤ n) (hs : w.heap.size ≤ w'.heap.size) : Out P m w' b := h.elim .inl (fun h => .inr ⟨Nat.le_trans hm h.1, Nat.lt_of_lt_of_le h.2 hs⟩)
theorem SB.th {w : World} {b : Nat} {vs : List Value} (h : SB w b vs) : w.there b 0 vs.length := fun j hj => by
  rw [Nat.zero_add]
  have := h.1 j _ (List.getElem?_eq_getElem hj)
  exact ⟨by rw [this.1]; rfl, this.2⟩

set_option maxRecDepth 100000 in
set_option maxHeartbeats 8000000 in
theorem join_any (A : Option Addr) (c : Nat) (l : List Dat) (last : Dat) (v : Value) (w : World) (P : Nat → Prop) (hP : ∀ b, P b → b < w.heap.size) (hL : RLs w P A c l) (hR : RDP w P last v) :
    Calls Tryd.prog 26 #[.slice A l.length c, v] w fun e w' => ∃ v', e = .returned v' ∧ RDP w' (Out P w.heap.size w') (joinD l last) v' ∧ Below w.heap.size w w' := by
  obtain ⟨ls, rfl, ll, lo⟩ := hR.agg
  match ls, ll with
  | [y0, y1, y2, y3, y4, y5, y6, y7, y8, y9, y10], _ =>
  have S0 := SB.new w [y0, y1, y2, y3, y4, y5, y6, y7, y8, y9, y10] 31
  have S1 := SB.new (w.alloc (.cells #[y0, y1, y2, y3, y4, y5, y6, y7, y8, y9, y10] 31)) [.int .i64 0, .int .i64 0, .bool false, .slice none 0 0, .slice none 0 0, .bool false, .slice none 0 0, .slice none 0 0, .string { data := #[] }, .slice none 0 0, .slice none 0 0] 31
  have z1 : (w.alloc (.cells #[y0, y1, y2, y3, y4, y5, y6, y7, y8, y9, y10] 31)).heap.size = w.heap.size + 1 := by simp
  have B0 := bal w (.cells #[y0, y1, y2, y3, y4, y5, y6, y7, y8, y9, y10] 31)
  have B1 := bal (w.alloc (.cells #[y0, y1, y2, y3, y4, y5, y6, y7, y8, y9, y10] 31)) (.cells #[.int .i64 0, .int .i64 0, .bool false, .slice none 0 0, .slice none 0 0, .bool false, .slice none 0 0, .slice none 0 0, .string { data := #[] }, .slice none 0 0, .slice none 0 0] 31)
  have S0 := S0.nx B1
  have BB := bt B0 B1
  rw [z1] at S1
  obtain ⟨W0, hW0⟩ : ∃ W0, W0 = (w.alloc (.cells #[y0, y1, y2, y3, y4, y5, y6, y7, y8, y9, y10] 31)).alloc (.cells #[.int .i64 0, .int .i64 0, .bool false, .slice none 0 0, .slice none 0 0, .bool false, .slice none 0 0, .slice none 0 0, .string { data := #[] }, .slice none 0 0, .slice none 0 0] 31) := ⟨_, rfl⟩
  have hs0 : W0.heap.size = w.heap.size + 2 := by rw [hW0]; simp
  have P0 : RDP W0 (Out P (w.heap.size + 2) W0) last (.agg #[y0, y1, y2, y3, y4, y5, y6, y7, y8, y9, y10]) := by
    rw [hW0]
    exact hR.step (fun z hz => BB.block z (hP z hz)) (fun z hz => .inl hz)
  have hbig := hL.2.1
  have hwl : IntKind.i64.wrap ((l.length : Int) - 1) = (l.length : Int) - 1 := IntWalk.i64_in _ (by omega)
  go_enter Tryd.func26, Tryd.ntmps26
  go_upto_region 2 with fail
  rw [← hW0] at S0 S1 BB ⊢
  replace hs0 := Lib.hid hs0
  clear hW0 hR B0 B1 z1 hwl
  generalize hn : w.heap.size = n at *
  go_loopg [5] l.length (fun gk s5 wx => ∃ (k : Nat) (cs : List Value), s5 = .int .i64 ((k : Int) - 1) ∧ k ≤ l.length ∧ k = gk ∧ cs.length = 11 ∧ SB wx n cs ∧ SB wx (n + 1) [.int .i64 0, .int .i64 0, .bool false, .slice none 0 0, .slice none 0 0, .bool false, .slice none 0 0, .slice none 0 0, .string { data := #[] }, .slice none 0 0, .slice none 0 0] ∧ RDP wx (Out P (n + 2) wx) (joinD (l.drop k) last) (.agg cs.toArray) ∧ Below n w wx)
  case atStart => exact ⟨l.length, _, rfl, Nat.le_refl _, rfl, rfl, S0, S1, by rw [List.drop_length]; exact P0, BB⟩
  case round =>
    obtain ⟨k, cs, rfl, hkl, hgk, cl, S2, S3, P2, B2⟩ := hrel
    clear S0 S1 P0 BB
    match cs, cl with
    | [y0, y1, y2, y3, y4, y5, y6, y7, y8, y9, y10], _ =>
    have hn2 : n + 1 < wr.heap.size := S3.2
    by_cases hk : 0 < k
    · obtain ⟨i, rfl⟩ : ∃ i, k = i + 1 := ⟨k - 1, by omega⟩
      have hkz : (0 : Int) ≤ ((i + 1 : Nat) : Int) - 1 := by omega
      have hki : ((i + 1 : Nat) : Int) - 1 = (i : Int) := by omega
      obtain ⟨b, off, hA, hb, hds⟩ := hL.2.2 (by omega)
      subst hA
      have hi : i < l.length := by omega
      obtain ⟨vx, Rx, cx⟩ := hds.get (List.getElem?_eq_getElem hi)
      obtain ⟨xs, rfl, xl, -⟩ := Rx.agg
      match xs, xl with
      | [x0, x1, x2, x3, x4, x5, x6, x7, x8, x9, x10], _ =>
      have hbn := hP b hb
      have cx : wr.rangeAt b (off + i * 11) [x0, x1, x2, x3, x4, x5, x6, x7, x8, x9, x10] := fun j u hj => (B2.cell (p := ⟨b, off + i * 11 + j, none⟩) hbn).trans (by have := cx _ rfl j u (by simpa using hj); simpa using this)
      have Px : RDP wr P l[i] (.agg #[x0, x1, x2, x3, x4, x5, x6, x7, x8, x9, x10]) := Rx.step (fun z hz => B2.block z (hP z hz)) (fun z hz => hz)
      have hli : (i : Int) < (l.length : Int) := by omega
      rw [hki] at hkz ⊢
      have hJ := joinD_drop hi last
      generalize hxx : l[i] = x at *
      generalize hyy : joinD (l.drop (i + 1)) last = y at *
      go_upto_region 4 with fail
      have Dw := (Below.refl wr.heap.size wr).drew
      have S2 := S2.nx Dw
      have S3 := S3.nx Dw
      have B2 : Below n w wr.drew := bdN B2 1
      have P2 : RDP wr.drew (Out P (n + 2) wr.drew) y (.agg #[y0, y1, y2, y3, y4, y5, y6, y7, y8, y9, y10]) := P2.step (fun z hz => Dw.block z (hz.lt hP (by omega))) (fun z hz => hz.up (Nat.le_refl _) Dw.size)
      have Px : RDP wr.drew P x (.agg #[x0, x1, x2, x3, x4, x5, x6, x7, x8, x9, x10]) := Px.step (fun z hz => Dw.block z (by have := hP z hz; omega)) (fun z hz => hz)
      have cx : wr.drew.rangeAt b (off + i * 11) [x0, x1, x2, x3, x4, x5, x6, x7, x8, x9, x10] := cx
      have hn2 : n + 1 < wr.drew.heap.size := Nat.lt_of_lt_of_le hn2 Dw.size
      refine AnyV.regionQ 7 8 (fun w' => w'.rangeAt b (off + i * 11) [x0, x1, x2, x3, x4, x5, x6, x7, x8, x9, x10] ∧ w'.rangeAt n 0 [y0, y1, y2, y3, y4, y5, y6, y7, y8, y9, y10]) rfl (by kernel_rfl) (by kernel_rfl) (by repeat (first | refine quiet_then ?_ | refine quiet_block ?_ | exact quiet_body)) ⟨cx, fun j u hj => by rw [Nat.zero_add]; exact (S2.1 j u hj).1⟩ (fun Q hQK hq hns hHeld => ?_)
      generalize wr.drew = w4 at *
      clear Dw
      refine AnyV.next (i := 0) (v := ?_) hq hns hHeld rfl rfl (by kernel_rfl) (Or.inl ⟨by rfl, ?_⟩) ?_
      rotate_left
      · intro w' hSw; (try dsimp only at hSw); go_simp <;> with_reducible rfl
      try simp only [List.setIfInBounds_toArray, List.set_cons_zero, List.set_cons_succ]
      refine AnyV.next (i := 1) (v := ?_) hq hns hHeld rfl rfl (by kernel_rfl) (Or.inl ⟨by rfl, ?_⟩) ?_
      rotate_left
      · intro w' hSw; (try dsimp only at hSw); go_simp <;> with_reducible rfl
      try simp only [List.setIfInBounds_toArray, List.set_cons_zero, List.set_cons_succ]
      refine AnyV.next (i := 2) (v := ?_) hq hns hHeld rfl rfl (by kernel_rfl) (Or.inl ⟨by rfl, ?_⟩) ?_
      rotate_left
      · intro w' hSw; (try dsimp only at hSw); go_simp <;> with_reducible rfl
      try simp only [List.setIfInBounds_toArray, List.set_cons_zero, List.set_cons_succ]
      refine AnyV.next (i := 3) (v := .agg [x0, x1, x2, x3, x4, x5, x6, x7, x8, x9, x10].toArray) hq hns hHeld rfl rfl (by kernel_rfl) (yieldsIf_load_mid (by rfl) 31 (.tmp 15) rfl b (off + i * 11) rfl [x0, x1, x2, x3, x4, x5, x6, x7, x8, x9, x10] _ (fun w' h => h.1) Tryd.underlying31 rfl (infoD.trans (by rfl))) ?_
      try simp only [List.setIfInBounds_toArray, List.set_cons_zero, List.set_cons_succ]
      refine AnyV.next (i := 4) (v := .agg [y0, y1, y2, y3, y4, y5, y6, y7, y8, y9, y10].toArray) hq hns hHeld rfl rfl (by kernel_rfl) (yieldsIf_load_mid (by rfl) 31 (.tmp 3) rfl n 0 rfl [y0, y1, y2, y3, y4, y5, y6, y7, y8, y9, y10] _ (fun w' h => h.2) Tryd.underlying31 rfl (infoD.trans (by rfl))) ?_
      try simp only [List.setIfInBounds_toArray, List.set_cons_zero, List.set_cons_succ]
      obtain ⟨g, hgs⟩ : ∃ g, w4.heap.size = g := ⟨_, rfl⟩
      have Ba := bal w4 (.cells #[x0, x1, x2, x3, x4, x5, x6, x7, x8, x9, x10, y0, y1, y2, y3, y4, y5, y6, y7, y8, y9, y10] 31)
      obtain ⟨w5, hw5⟩ : ∃ w5, w5 = w4.alloc (.cells #[x0, x1, x2, x3, x4, x5, x6, x7, x8, x9, x10, y0, y1, y2, y3, y4, y5, y6, y7, y8, y9, y10] 31) := ⟨_, rfl⟩
      have Sg : SB w5 g [x0, x1, x2, x3, x4, x5, x6, x7, x8, x9, x10, y0, y1, y2, y3, y4, y5, y6, y7, y8, y9, y10] := by rw [hw5, ← hgs]; exact SB.new w4 _ _
      rw [← hw5] at Ba
      rw [hgs] at hn2 Ba
      have S2 := S2.nx (by rw [hgs]; exact Ba)
      have S3 := S3.nx (by rw [hgs]; exact Ba)
      have Bn : Below n w w5 := B2.trans (Ba.mono (by omega))
      have hs5 : w5.heap.size = g + 1 := by rw [hw5, ← hgs]; simp
      have Py : RDP w5 (Out P (n + 2) w5) y (.agg #[y0, y1, y2, y3, y4, y5, y6, y7, y8, y9, y10]) := P2.step (fun z hz => Ba.block z (by have := hz.lt hP (by omega); omega)) (fun z hz => hz.up (Nat.le_refl _) (by omega))
      have Px' : RDP w5 (Out P (n + 2) w5) x (.agg #[x0, x1, x2, x3, x4, x5, x6, x7, x8, x9, x10]) := Px.step (fun z hz => Ba.block z (by have := hP z hz; omega)) (fun z hz => .inl hz)
      have cx5 : w5.rangeAt b (off + i * 11) [x0, x1, x2, x3, x4, x5, x6, x7, x8, x9, x10] := fun j u hj => (Ba.cell (p := ⟨b, off + i * 11 + j, none⟩) (by show b < g; omega)).trans (cx j u hj)
      have cg : w5.rangeAt g 0 [x0, x1, x2, x3, x4, x5, x6, x7, x8, x9, x10] := fun j u hj => by rw [Nat.zero_add]; exact Sg.cell j (by have : j < 11 := (List.getElem?_eq_some_iff.1 hj).1; rw [List.getElem?_append_left (l₂ := [y0, y1, y2, y3, y4, y5, y6, y7, y8, y9, y10]) this (l₁ := [x0, x1, x2, x3, x4, x5, x6, x7, x8, x9, x10]) |>.symm] at hj; exact hj)
      have cg2 : w5.rangeAt g 11 [y0, y1, y2, y3, y4, y5, y6, y7, y8, y9, y10] := fun j u hj => Sg.cell (11 + j) (by rw [← hj]; show ([x0, x1, x2, x3, x4, x5, x6, x7, x8, x9, x10] ++ [y0, y1, y2, y3, y4, y5, y6, y7, y8, y9, y10])[11 + j]? = _; rw [List.getElem?_append_right (by simp)]; congr 1; simp)
      have PP : RDP w5 (Out P (n + 2) w5) (pairD x y) (.agg #[.int .i64 8, .int .i64 0, .bool false, .slice none 0 0, .slice none 0 0, .bool false, .slice none 0 0, .slice none 0 0, .string { data := #[] }, .slice none 0 0, .slice (some ⟨g, 0, none⟩) 2 2]) := RDP.mk_ (WP.nil _ _ _ _) (WP.nil _ _ _ _) (WP.nil _ _ _ _) (WP.nil _ _ _ _) (RLP.nil _ _ _ _ _) (pairD_ok x y) ⟨Nat.le_refl 2, by show 2 ≤ _; omega⟩ (fun _ => ⟨g, 0, rfl, .inr ⟨by omega, by omega⟩, RDPs.of [x, y] 0 (fun k z hk => match k, hk with
        | 0, hk => by
          obtain rfl : x = z := by simpa using hk
          exact ⟨[x0, x1, x2, x3, x4, x5, x6, x7, x8, x9, x10], rfl, Px', cg⟩
        | 1, hk => by
          obtain rfl : y = z := by simpa using hk
          exact ⟨[y0, y1, y2, y3, y4, y5, y6, y7, y8, y9, y10], rfl, Py, cg2⟩
        | k + 2, hk => by simp at hk)⟩)
      refine AnyV.one 5 (by kernel_rfl) rfl (fun K hK => ?_)
      go_simp
      rw [← hw5]
      refine hK.out _ _ (.inr ⟨cx5, fun j u hj => by rw [Nat.zero_add]; exact S2.cell j hj⟩) (fun hHeld => ?_)
      have hHeld := hHeld.resolve_left (by decide)
      clear hK K
      try simp only [List.setIfInBounds_toArray, List.set_cons_zero, List.set_cons_succ]
      clear hw5 hgs Sg cg cg2 Px' Py cx P2 Px B2 Ba

      refine AnyV.next (i := 6) (v := ?_) hq hns hHeld rfl rfl (by kernel_rfl) (Or.inl ⟨by rfl, ?_⟩) ?_
      rotate_left
      · intro w' hSw; (try dsimp only at hSw); go_simp <;> with_reducible rfl
      try simp only [List.setIfInBounds_toArray, List.set_cons_zero, List.set_cons_succ]
      refine AnyV.one 7 (by kernel_rfl) rfl (fun K hK => ?_)
      refine step_stDo rfl rfl (.tmp 3) (.tmp 19) rfl n 0 rfl [.int .i64 8, .int .i64 0, .bool false, .slice none 0 0, .slice none 0 0, .bool false, .slice none 0 0, .slice none 0 0, .string { data := #[] }, .slice none 0 0, .slice (some ⟨g, 0, none⟩) 2 2] rfl rfl S2.th (by simp [Value.oneCell']) ?_
      refine hK.out _ _ (.inl (by decide)) (fun _ => ?_)
      clear hK K
      try simp only [List.setIfInBounds_toArray, List.set_cons_zero, List.set_cons_succ]
      refine AnyV.done (by kernel_rfl) (hQK.out _ _ ?_)
      clear hQK hq hns hHeld
      have S2 := S2.cells [.int .i64 8, .int .i64 0, .bool false, .slice none 0 0, .slice none 0 0, .bool false, .slice none 0 0, .slice none 0 0, .string { data := #[] }, .slice none 0 0, .slice (some ⟨g, 0, none⟩) 2 2] rfl
      have S3 := S3.cells_far (g := n) (by omega) [.int .i64 8, .int .i64 0, .bool false, .slice none 0 0, .slice none 0 0, .bool false, .slice none 0 0, .slice none 0 0, .string { data := #[] }, .slice none 0 0, .slice (some ⟨g, 0, none⟩) 2 2]
      have Bn := below_cso Bn (b := n) (Nat.le_refl _) 0 [.int .i64 8, .int .i64 0, .bool false, .slice none 0 0, .slice none 0 0, .bool false, .slice none 0 0, .slice none 0 0, .string { data := #[] }, .slice none 0 0, .slice (some ⟨g, 0, none⟩) 2 2]
      have PP : RDP (w5.setCells n 0 [.int .i64 8, .int .i64 0, .bool false, .slice none 0 0, .slice none 0 0, .bool false, .slice none 0 0, .slice none 0 0, .string { data := #[] }, .slice none 0 0, .slice (some ⟨g, 0, none⟩) 2 2]) (Out P (n + 2) (w5.setCells n 0 [.int .i64 8, .int .i64 0, .bool false, .slice none 0 0, .slice none 0 0, .bool false, .slice none 0 0, .slice none 0 0, .string { data := #[] }, .slice none 0 0, .slice (some ⟨g, 0, none⟩) 2 2])) (pairD x y) (.agg #[.int .i64 8, .int .i64 0, .bool false, .slice none 0 0, .slice none 0 0, .bool false, .slice none 0 0, .slice none 0 0, .string { data := #[] }, .slice none 0 0, .slice (some ⟨g, 0, none⟩) 2 2]) := PP.step (fun z hz => World.heap_setCells_other w5 n 0 [.int .i64 8, .int .i64 0, .bool false, .slice none 0 0, .slice none 0 0, .bool false, .slice none 0 0, .slice none 0 0, .string { data := #[] }, .slice none 0 0, .slice (some ⟨g, 0, none⟩) 2 2] (hz.lt hP (by omega)) (hz.ne hP (Nat.le_refl _) (by omega))) (fun z hz => hz.up (Nat.le_refl _) (by rw [size_sc]; exact Nat.le_refl _))
      generalize w5.setCells n 0 [.int .i64 8, .int .i64 0, .bool false, .slice none 0 0, .slice none 0 0, .bool false, .slice none 0 0, .slice none 0 0, .string { data := #[] }, .slice none 0 0, .slice (some ⟨g, 0, none⟩) 2 2] = w6 at *
      go_wp2_with fail
      go_roundg i
      case measure => omega
      case rel => exact ⟨i, _, rfl, by omega, rfl, rfl, S2, S3, by rw [hJ]; exact PP, Bn⟩
    · obtain rfl : k = 0 := by omega
      subst hgk
      have hkz : ¬ ((0 : Int) ≤ ((0 : Nat) : Int) - 1) := by omega
      obtain ⟨_, e, _, zo⟩ := P2.agg
      obtain rfl := (congrArg Array.toList (Value.agg.inj e) : [y0, y1, y2, y3, y4, y5, y6, y7, y8, y9, y10] = _)
      have k0 := S2.cell 0; have k1 := S2.cell 1; have k2 := S2.cell 2; have k3 := S2.cell 3; have k4 := S2.cell 4; have k5 := S2.cell 5; have k6 := S2.cell 6; have k7 := S2.cell 7; have k8 := S2.cell 8; have k9 := S2.cell 9; have k10 := S2.cell 10
      go_wp2_with (refine wp_stD rfl rfl (.tmp 4) (.tmp 20) rfl (n + 1) rfl [y0, y1, y2, y3, y4, y5, y6, y7, y8, y9, y10] rfl rfl _ S3 rfl zo ?_)
      have S4 := S3.cells [y0, y1, y2, y3, y4, y5, y6, y7, y8, y9, y10] rfl
      clear k0 k1 k2 k3 k4 k5 k6 k7 k8 k9 k10
      have r0 := S4.cell 0; have r1 := S4.cell 1; have r2 := S4.cell 2; have r3 := S4.cell 3; have r4 := S4.cell 4; have r5 := S4.cell 5; have r6 := S4.cell 6; have r7 := S4.cell 7; have r8 := S4.cell 8; have r9 := S4.cell 9; have r10 := S4.cell 10
      refine bodyPost_ret (v := .agg #[y0, y1, y2, y3, y4, y5, y6, y7, y8, y9, y10]) (by simp [results, r0, r1, r2, r3, r4, r5, r6, r7, r8, r9, r10, go_sem]) rfl ?_
      exact ⟨_, rfl, by rw [List.drop_zero] at P2; exact P2.step (fun z hz => World.heap_setCells_other wr (n + 1) 0 [y0, y1, y2, y3, y4, y5, y6, y7, y8, y9, y10] (hz.lt hP (by omega)) (hz.ne hP (by omega) (by omega))) (fun z hz => hz.up (by omega) (by rw [size_sc]; exact Nat.le_refl _)), below_cso B2 (by omega) _ _⟩

set_option maxRecDepth 100000 in
set_option maxHeartbeats 8000000 in
theorem rList_any (A : Option Addr) (c : Nat) (l : List Dat) (last : Dat) (v : Value) (w : World) (P : Nat → Prop) (hP : ∀ b, P b → b < w.heap.size) (hL : RLs w P A c l) (hR : RDP w P last v) :
    Calls Tryd.prog 37 #[.slice A l.length c, v] w fun e w' => ∃ v', e = .returned v' ∧ RDP w' (Out P w.heap.size w') (joinD l last) v' ∧ Below w.heap.size w w' := by
  obtain ⟨ls, rfl, ll, lo⟩ := hR.agg
  match ls, ll with
  | [y0, y1, y2, y3, y4, y5, y6, y7, y8, y9, y10], _ =>
  have S0 := SB.new w [y0, y1, y2, y3, y4, y5, y6, y7, y8, y9, y10] 31
  have S1 := SB.new (w.alloc (.cells #[y0, y1, y2, y3, y4, y5, y6, y7, y8, y9, y10] 31)) [.int .i64 0, .int .i64 0, .bool false, .slice none 0 0, .slice none 0 0, .bool false, .slice none 0 0, .slice none 0 0, .string { data := #[] }, .slice none 0 0, .slice none 0 0] 31
  have z1 : (w.alloc (.cells #[y0, y1, y2, y3, y4, y5, y6, y7, y8, y9, y10] 31)).heap.size = w.heap.size + 1 := by simp
  have B0 := bal w (.cells #[y0, y1, y2, y3, y4, y5, y6, y7, y8, y9, y10] 31)
  have B1 := bal (w.alloc (.cells #[y0, y1, y2, y3, y4, y5, y6, y7, y8, y9, y10] 31)) (.cells #[.int .i64 0, .int .i64 0, .bool false, .slice none 0 0, .slice none 0 0, .bool false, .slice none 0 0, .slice none 0 0, .string { data := #[] }, .slice none 0 0, .slice none 0 0] 31)
  have S0 := S0.nx B1
  have BB := bt B0 B1
  rw [z1] at S1
  obtain ⟨W0, hW0⟩ : ∃ W0, W0 = (w.alloc (.cells #[y0, y1, y2, y3, y4, y5, y6, y7, y8, y9, y10] 31)).alloc (.cells #[.int .i64 0, .int .i64 0, .bool false, .slice none 0 0, .slice none 0 0, .bool false, .slice none 0 0, .slice none 0 0, .string { data := #[] }, .slice none 0 0, .slice none 0 0] 31) := ⟨_, rfl⟩
  have hs0 : W0.heap.size = w.heap.size + 2 := by rw [hW0]; simp
  have P0 : RDP W0 (Out P (w.heap.size + 2) W0) last (.agg #[y0, y1, y2, y3, y4, y5, y6, y7, y8, y9, y10]) := by
    rw [hW0]
    exact hR.step (fun z hz => BB.block z (hP z hz)) (fun z hz => .inl hz)
  have hbig := hL.2.1
  have hwl : IntKind.i64.wrap ((l.length : Int) - 1) = (l.length : Int) - 1 := IntWalk.i64_in _ (by omega)
  go_enter Tryd.func37, Tryd.ntmps37
  go_upto_region 2 with fail
  rw [← hW0] at S0 S1 BB ⊢
  replace hs0 := Lib.hid hs0
  clear hW0 hR B0 B1 z1 hwl
  generalize hn : w.heap.size = n at *
  go_loopg [5] l.length (fun gk s5 wx => ∃ (k : Nat) (cs : List Value), s5 = .int .i64 ((k : Int) - 1) ∧ k ≤ l.length ∧ k = gk ∧ cs.length = 11 ∧ SB wx n cs ∧ SB wx (n + 1) [.int .i64 0, .int .i64 0, .bool false, .slice none 0 0, .slice none 0 0, .bool false, .slice none 0 0, .slice none 0 0, .string { data := #[] }, .slice none 0 0, .slice none 0 0] ∧ RDP wx (Out P (n + 2) wx) (joinD (l.drop k) last) (.agg cs.toArray) ∧ Below n w wx)
  case atStart => exact ⟨l.length, _, rfl, Nat.le_refl _, rfl, rfl, S0, S1, by rw [List.drop_length]; exact P0, BB⟩
  case round =>
    obtain ⟨k, cs, rfl, hkl, hgk, cl, S2, S3, P2, B2⟩ := hrel
    clear S0 S1 P0 BB
    match cs, cl with
    | [y0, y1, y2, y3, y4, y5, y6, y7, y8, y9, y10], _ =>
    have hn2 : n + 1 < wr.heap.size := S3.2
    by_cases hk : 0 < k
    · obtain ⟨i, rfl⟩ : ∃ i, k = i + 1 := ⟨k - 1, by omega⟩
      have hkz : (0 : Int) ≤ ((i + 1 : Nat) : Int) - 1 := by omega
      have hki : ((i + 1 : Nat) : Int) - 1 = (i : Int) := by omega
      obtain ⟨b, off, hA, hb, hds⟩ := hL.2.2 (by omega)
      subst hA
      have hi : i < l.length := by omega
      obtain ⟨vx, Rx, cx⟩ := hds.get (List.getElem?_eq_getElem hi)
      obtain ⟨xs, rfl, xl, -⟩ := Rx.agg
      match xs, xl with
      | [x0, x1, x2, x3, x4, x5, x6, x7, x8, x9, x10], _ =>
      have hbn := hP b hb
      have cx : wr.rangeAt b (off + i * 11) [x0, x1, x2, x3, x4, x5, x6, x7, x8, x9, x10] := fun j u hj => (B2.cell (p := ⟨b, off + i * 11 + j, none⟩) hbn).trans (by have := cx _ rfl j u (by simpa using hj); simpa using this)
      have Px : RDP wr P l[i] (.agg #[x0, x1, x2, x3, x4, x5, x6, x7, x8, x9, x10]) := Rx.step (fun z hz => B2.block z (hP z hz)) (fun z hz => hz)
      have hli : (i : Int) < (l.length : Int) := by omega
      rw [hki] at hkz ⊢
      have hJ := joinD_drop hi last
      generalize hxx : l[i] = x at *
      generalize hyy : joinD (l.drop (i + 1)) last = y at *
      go_upto_region 4 with fail
      have Dw := (Below.refl wr.heap.size wr).drew
      have S2 := S2.nx Dw
      have S3 := S3.nx Dw
      have B2 : Below n w wr.drew := bdN B2 1
      have P2 : RDP wr.drew (Out P (n + 2) wr.drew) y (.agg #[y0, y1, y2, y3, y4, y5, y6, y7, y8, y9, y10]) := P2.step (fun z hz => Dw.block z (hz.lt hP (by omega))) (fun z hz => hz.up (Nat.le_refl _) Dw.size)
      have Px : RDP wr.drew P x (.agg #[x0, x1, x2, x3, x4, x5, x6, x7, x8, x9, x10]) := Px.step (fun z hz => Dw.block z (by have := hP z hz; omega)) (fun z hz => hz)
      have cx : wr.drew.rangeAt b (off + i * 11) [x0, x1, x2, x3, x4, x5, x6, x7, x8, x9, x10] := cx
      have hn2 : n + 1 < wr.drew.heap.size := Nat.lt_of_lt_of_le hn2 Dw.size
      refine AnyV.regionQ 7 8 (fun w' => w'.rangeAt b (off + i * 11) [x0, x1, x2, x3, x4, x5, x6, x7, x8, x9, x10] ∧ w'.rangeAt n 0 [y0, y1, y2, y3, y4, y5, y6, y7, y8, y9, y10]) rfl (by kernel_rfl) (by kernel_rfl) (by repeat (first | refine quiet_then ?_ | refine quiet_block ?_ | exact quiet_body)) ⟨cx, fun j u hj => by rw [Nat.zero_add]; exact (S2.1 j u hj).1⟩ (fun Q hQK hq hns hHeld => ?_)
      generalize wr.drew = w4 at *
      clear Dw
      refine AnyV.next (i := 0) (v := ?_) hq hns hHeld rfl rfl (by kernel_rfl) (Or.inl ⟨by rfl, ?_⟩) ?_
      rotate_left
      · intro w' hSw; (try dsimp only at hSw); go_simp <;> with_reducible rfl
      try simp only [List.setIfInBounds_toArray, List.set_cons_zero, List.set_cons_succ]
      refine AnyV.next (i := 1) (v := ?_) hq hns hHeld rfl rfl (by kernel_rfl) (Or.inl ⟨by rfl, ?_⟩) ?_
      rotate_left
      · intro w' hSw; (try dsimp only at hSw); go_simp <;> with_reducible rfl
      try simp only [List.setIfInBounds_toArray, List.set_cons_zero, List.set_cons_succ]
      refine AnyV.next (i := 2) (v := ?_) hq hns hHeld rfl rfl (by kernel_rfl) (Or.inl ⟨by rfl, ?_⟩) ?_
      rotate_left
      · intro w' hSw; (try dsimp only at hSw); go_simp <;> with_reducible rfl
      try simp only [List.setIfInBounds_toArray, List.set_cons_zero, List.set_cons_succ]
      refine AnyV.next (i := 3) (v := .agg [x0, x1, x2, x3, x4, x5, x6, x7, x8, x9, x10].toArray) hq hns hHeld rfl rfl (by kernel_rfl) (yieldsIf_load_mid (by rfl) 31 (.tmp 15) rfl b (off + i * 11) rfl [x0, x1, x2, x3, x4, x5, x6, x7, x8, x9, x10] _ (fun w' h => h.1) Tryd.underlying31 rfl (infoD.trans (by rfl))) ?_
      try simp only [List.setIfInBounds_toArray, List.set_cons_zero, List.set_cons_succ]
      refine AnyV.next (i := 4) (v := .agg [y0, y1, y2, y3, y4, y5, y6, y7, y8, y9, y10].toArray) hq hns hHeld rfl rfl (by kernel_rfl) (yieldsIf_load_mid (by rfl) 31 (.tmp 3) rfl n 0 rfl [y0, y1, y2, y3, y4, y5, y6, y7, y8, y9, y10] _ (fun w' h => h.2) Tryd.underlying31 rfl (infoD.trans (by rfl))) ?_
      try simp only [List.setIfInBounds_toArray, List.set_cons_zero, List.set_cons_succ]
      obtain ⟨g, hgs⟩ : ∃ g, w4.heap.size = g := ⟨_, rfl⟩
      have Ba := bal w4 (.cells #[x0, x1, x2, x3, x4, x5, x6, x7, x8, x9, x10, y0, y1, y2, y3, y4, y5, y6, y7, y8, y9, y10] 31)
      obtain ⟨w5, hw5⟩ : ∃ w5, w5 = w4.alloc (.cells #[x0, x1, x2, x3, x4, x5, x6, x7, x8, x9, x10, y0, y1, y2, y3, y4, y5, y6, y7, y8, y9, y10] 31) := ⟨_, rfl⟩
      have Sg : SB w5 g [x0, x1, x2, x3, x4, x5, x6, x7, x8, x9, x10, y0, y1, y2, y3, y4, y5, y6, y7, y8, y9, y10] := by rw [hw5, ← hgs]; exact SB.new w4 _ _
      rw [← hw5] at Ba
      rw [hgs] at hn2 Ba
      have S2 := S2.nx (by rw [hgs]; exact Ba)
      have S3 := S3.nx (by rw [hgs]; exact Ba)
      have Bn : Below n w w5 := B2.trans (Ba.mono (by omega))
      have hs5 : w5.heap.size = g + 1 := by rw [hw5, ← hgs]; simp
      have Py : RDP w5 (Out P (n + 2) w5) y (.agg #[y0, y1, y2, y3, y4, y5, y6, y7, y8, y9, y10]) := P2.step (fun z hz => Ba.block z (by have := hz.lt hP (by omega); omega)) (fun z hz => hz.up (Nat.le_refl _) (by omega))
      have Px' : RDP w5 (Out P (n + 2) w5) x (.agg #[x0, x1, x2, x3, x4, x5, x6, x7, x8, x9, x10]) := Px.step (fun z hz => Ba.block z (by have := hP z hz; omega)) (fun z hz => .inl hz)
      have cx5 : w5.rangeAt b (off + i * 11) [x0, x1, x2, x3, x4, x5, x6, x7, x8, x9, x10] := fun j u hj => (Ba.cell (p := ⟨b, off + i * 11 + j, none⟩) (by show b < g; omega)).trans (cx j u hj)
      have cg : w5.rangeAt g 0 [x0, x1, x2, x3, x4, x5, x6, x7, x8, x9, x10] := fun j u hj => by rw [Nat.zero_add]; exact Sg.cell j (by have : j < 11 := (List.getElem?_eq_some_iff.1 hj).1; rw [List.getElem?_append_left (l₂ := [y0, y1, y2, y3, y4, y5, y6, y7, y8, y9, y10]) this (l₁ := [x0, x1, x2, x3, x4, x5, x6, x7, x8, x9, x10]) |>.symm] at hj; exact hj)
      have cg2 : w5.rangeAt g 11 [y0, y1, y2, y3, y4, y5, y6, y7, y8, y9, y10] := fun j u hj => Sg.cell (11 + j) (by rw [← hj]; show ([x0, x1, x2, x3, x4, x5, x6, x7, x8, x9, x10] ++ [y0, y1, y2, y3, y4, y5, y6, y7, y8, y9, y10])[11 + j]? = _; rw [List.getElem?_append_right (by simp)]; congr 1; simp)
      have PP : RDP w5 (Out P (n + 2) w5) (pairD x y) (.agg #[.int .i64 8, .int .i64 0, .bool false, .slice none 0 0, .slice none 0 0, .bool false, .slice none 0 0, .slice none 0 0, .string { data := #[] }, .slice none 0 0, .slice (some ⟨g, 0, none⟩) 2 2]) := RDP.mk_ (WP.nil _ _ _ _) (WP.nil _ _ _ _) (WP.nil _ _ _ _) (WP.nil _ _ _ _) (RLP.nil _ _ _ _ _) (pairD_ok x y) ⟨Nat.le_refl 2, by show 2 ≤ _; omega⟩ (fun _ => ⟨g, 0, rfl, .inr ⟨by omega, by omega⟩, RDPs.of [x, y] 0 (fun k z hk => match k, hk with
        | 0, hk => by
          obtain rfl : x = z := by simpa using hk
          exact ⟨[x0, x1, x2, x3, x4, x5, x6, x7, x8, x9, x10], rfl, Px', cg⟩
        | 1, hk => by
          obtain rfl : y = z := by simpa using hk
          exact ⟨[y0, y1, y2, y3, y4, y5, y6, y7, y8, y9, y10], rfl, Py, cg2⟩
        | k + 2, hk => by simp at hk)⟩)
      refine AnyV.one 5 (by kernel_rfl) rfl (fun K hK => ?_)
      go_simp
      rw [← hw5]
      refine hK.out _ _ (.inr ⟨cx5, fun j u hj => by rw [Nat.zero_add]; exact S2.cell j hj⟩) (fun hHeld => ?_)
      have hHeld := hHeld.resolve_left (by decide)
      clear hK K
      try simp only [List.setIfInBounds_toArray, List.set_cons_zero, List.set_cons_succ]
      clear hw5 hgs Sg cg cg2 Px' Py cx P2 Px B2 Ba

      refine AnyV.next (i := 6) (v := ?_) hq hns hHeld rfl rfl (by kernel_rfl) (Or.inl ⟨by rfl, ?_⟩) ?_
      rotate_left
      · intro w' hSw; (try dsimp only at hSw); go_simp <;> with_reducible rfl
      try simp only [List.setIfInBounds_toArray, List.set_cons_zero, List.set_cons_succ]
      refine AnyV.one 7 (by kernel_rfl) rfl (fun K hK => ?_)
      refine step_stDo rfl rfl (.tmp 3) (.tmp 19) rfl n 0 rfl [.int .i64 8, .int .i64 0, .bool false, .slice none 0 0, .slice none 0 0, .bool false, .slice none 0 0, .slice none 0 0, .string { data := #[] }, .slice none 0 0, .slice (some ⟨g, 0, none⟩) 2 2] rfl rfl S2.th (by simp [Value.oneCell']) ?_
      refine hK.out _ _ (.inl (by decide)) (fun _ => ?_)
      clear hK K
      try simp only [List.setIfInBounds_toArray, List.set_cons_zero, List.set_cons_succ]
      refine AnyV.done (by kernel_rfl) (hQK.out _ _ ?_)
      clear hQK hq hns hHeld
      have S2 := S2.cells [.int .i64 8, .int .i64 0, .bool false, .slice none 0 0, .slice none 0 0, .bool false, .slice none 0 0, .slice none 0 0, .string { data := #[] }, .slice none 0 0, .slice (some ⟨g, 0, none⟩) 2 2] rfl
      have S3 := S3.cells_far (g := n) (by omega) [.int .i64 8, .int .i64 0, .bool false, .slice none 0 0, .slice none 0 0, .bool false, .slice none 0 0, .slice none 0 0, .string { data := #[] }, .slice none 0 0, .slice (some ⟨g, 0, none⟩) 2 2]
      have Bn := below_cso Bn (b := n) (Nat.le_refl _) 0 [.int .i64 8, .int .i64 0, .bool false, .slice none 0 0, .slice none 0 0, .bool false, .slice none 0 0, .slice none 0 0, .string { data := #[] }, .slice none 0 0, .slice (some ⟨g, 0, none⟩) 2 2]
      have PP : RDP (w5.setCells n 0 [.int .i64 8, .int .i64 0, .bool false, .slice none 0 0, .slice none 0 0, .bool false, .slice none 0 0, .slice none 0 0, .string { data := #[] }, .slice none 0 0, .slice (some ⟨g, 0, none⟩) 2 2]) (Out P (n + 2) (w5.setCells n 0 [.int .i64 8, .int .i64 0, .bool false, .slice none 0 0, .slice none 0 0, .bool false, .slice none 0 0, .slice none 0 0, .string { data := #[] }, .slice none 0 0, .slice (some ⟨g, 0, none⟩) 2 2])) (pairD x y) (.agg #[.int .i64 8, .int .i64 0, .bool false, .slice none 0 0, .slice none 0 0, .bool false, .slice none 0 0, .slice none 0 0, .string { data := #[] }, .slice none 0 0, .slice (some ⟨g, 0, none⟩) 2 2]) := PP.step (fun z hz => World.heap_setCells_other w5 n 0 [.int .i64 8, .int .i64 0, .bool false, .slice none 0 0, .slice none 0 0, .bool false, .slice none 0 0, .slice none 0 0, .string { data := #[] }, .slice none 0 0, .slice (some ⟨g, 0, none⟩) 2 2] (hz.lt hP (by omega)) (hz.ne hP (Nat.le_refl _) (by omega))) (fun z hz => hz.up (Nat.le_refl _) (by rw [size_sc]; exact Nat.le_refl _))
      generalize w5.setCells n 0 [.int .i64 8, .int .i64 0, .bool false, .slice none 0 0, .slice none 0 0, .bool false, .slice none 0 0, .slice none 0 0, .string { data := #[] }, .slice none 0 0, .slice (some ⟨g, 0, none⟩) 2 2] = w6 at *
      go_wp2_with fail
      go_roundg i
      case measure => omega
      case rel => exact ⟨i, _, rfl, by omega, rfl, rfl, S2, S3, by rw [hJ]; exact PP, Bn⟩
    · obtain rfl : k = 0 := by omega
      subst hgk
      have hkz : ¬ ((0 : Int) ≤ ((0 : Nat) : Int) - 1) := by omega
      obtain ⟨_, e, _, zo⟩ := P2.agg
      obtain rfl := (congrArg Array.toList (Value.agg.inj e) : [y0, y1, y2, y3, y4, y5, y6, y7, y8, y9, y10] = _)
      have k0 := S2.cell 0; have k1 := S2.cell 1; have k2 := S2.cell 2; have k3 := S2.cell 3; have k4 := S2.cell 4; have k5 := S2.cell 5; have k6 := S2.cell 6; have k7 := S2.cell 7; have k8 := S2.cell 8; have k9 := S2.cell 9; have k10 := S2.cell 10
      go_wp2_with (refine wp_stD rfl rfl (.tmp 4) (.tmp 20) rfl (n + 1) rfl [y0, y1, y2, y3, y4, y5, y6, y7, y8, y9, y10] rfl rfl _ S3 rfl zo ?_)
      have S4 := S3.cells [y0, y1, y2, y3, y4, y5, y6, y7, y8, y9, y10] rfl
      clear k0 k1 k2 k3 k4 k5 k6 k7 k8 k9 k10
      have r0 := S4.cell 0; have r1 := S4.cell 1; have r2 := S4.cell 2; have r3 := S4.cell 3; have r4 := S4.cell 4; have r5 := S4.cell 5; have r6 := S4.cell 6; have r7 := S4.cell 7; have r8 := S4.cell 8; have r9 := S4.cell 9; have r10 := S4.cell 10
      refine bodyPost_ret (v := .agg #[y0, y1, y2, y3, y4, y5, y6, y7, y8, y9, y10]) (by simp [results, r0, r1, r2, r3, r4, r5, r6, r7, r8, r9, r10, go_sem]) rfl ?_
      exact ⟨_, rfl, by rw [List.drop_zero] at P2; exact P2.step (fun z hz => World.heap_setCells_other wr (n + 1) 0 [y0, y1, y2, y3, y4, y5, y6, y7, y8, y9, y10] (hz.lt hP (by omega)) (hz.ne hP (by omega) (by omega))) (fun z hz => hz.up (by omega) (by rw [size_sc]; exact Nat.le_refl _)), below_cso B2 (by omega) _ _⟩

end Go.Proofs.YtilhnjecnhpmlaaDoor
namespace Go.Proofs.YtilhnjecnhpmlaaDoor
open Go.RowKit

theorem infoDf : (Tryd.prog.info? 31).map (fun i => (i.zero, i.size, i.bytes)) = some (some (.agg #[.int .i64 0, .int .i64 0, .bool false, .slice none 0 0, .slice none 0 0, .bool false, .slice none 0 0, .slice none 0 0, .string { data := #[] }, .slice none 0 0, .slice none 0 0]), 11, 192) := by kernel_rfl
/-- make of data -/
theorem wp_makeD (w : World) {ops : Array Oper} {rest : List Oper} {o : Oper} {a : Act} {Q : Exit → Act → World → Prop} (hg : o.guard = none) (x c : Operand) (hop : o.op = Op.makeSlice 22 x c)
    (L C : Int) (n : Nat) (hl : a.eval x = .int .i64 L) (hc : a.eval c = .int .i64 C) (hL : L = (n : Int)) (hC : C = (n : Int)) (hn : n ≤ 20000)
    (hK : ∀ w', w'.there w.heap.size 0 (n * 11) → w.heap.size < w'.heap.size → Below w.heap.size w w' → wpList Tryd.prog ops Q rest (a.put o.dst (.slice (some ⟨w.heap.size, 0, none⟩) n n)) w') :
    wpList Tryd.prog ops Q (o :: rest) a w := by
  obtain ⟨i, hi, h0, hi1, h2⟩ := info_parts infoDf
  refine wpList_make_full w hg x c 22 hop w.heap.size 31 i _ 11 Tryd.underlying22 hi h0 hi1 .i64 .i64 L C n hl hc hL hC (by rw [h2]; omega) (by unfold maxLen; omega) (Nat.le_refl _) ?_
  intro w' hown hgr
  refine hK w' (fun j hj => ?_) ?_ ((Below.refl _ _).grown hgr (Nat.le_refl _) (fun k hk => by cases hk))
  · rw [Nat.zero_add]
    refine ⟨?_, hown.frozenAt j⟩
    rw [hown.cellAt j hj, List.getElem?_eq_getElem (by rw [hown.1]; exact hj)]
    rfl
  · rcases hown.2 with ⟨e, _⟩ | ⟨g, cap, cur, e, _, hh, _⟩
    · cases e
    · have : g = w.heap.size := by simp only [Value.slice.injEq, Option.some.injEq, Addr.mk.injEq] at e; exact e.1.1.symm
      subst this
      exact (Array.getElem?_eq_some_iff.1 hh).1

set_option maxRecDepth 100000 in
set_option maxHeartbeats 16000000 in
theorem copy_go (vv : ByteArray → Bool) (m : Nat) : ∀ (d : Dat), SizeOf.sizeOf d ≤ m → d.Fit vv → ∀ (v : Value) (w : World), RD w w.heap.size d v →
    Calls Tryd.prog 33 #[v] w fun e w' => ∃ v', e = .returned v' ∧ RDP w' (fun b => w.heap.size ≤ b ∧ b < w'.heap.size) d v' ∧ Below w.heap.size w w' := by
  induction m with
  | zero =>
    intro d hd
    exfalso
    cases d
    simp only [Dat.mk.sizeOf_spec] at hd
    omega
  | succ m ih =>
    intro d hd fd v w hR
    obtain ⟨ds, rfl, dl, dO⟩ := hR.agg
    match ds, dl, dO with
    | [x0, x1, x2, x3, x4, x5, x6, x7, x8, x9, x10], _, dO =>
    have z1 : (w.alloc (.cells #[x0, x1, x2, x3, x4, x5, x6, x7, x8, x9, x10] 31)).heap.size = w.heap.size + 1 := by simp
    have z2 : ((w.alloc (.cells #[x0, x1, x2, x3, x4, x5, x6, x7, x8, x9, x10] 31)).alloc (.cells #[.int .i64 0, .int .i64 0, .bool false, .slice none 0 0, .slice none 0 0, .bool false, .slice none 0 0, .slice none 0 0, .string { data := #[] }, .slice none 0 0, .slice none 0 0] 31)).heap.size = w.heap.size + 1 + 1 := by simp
    have S0 := SB.new w [x0, x1, x2, x3, x4, x5, x6, x7, x8, x9, x10] 31
    have S1 := SB.new (w.alloc (.cells #[x0, x1, x2, x3, x4, x5, x6, x7, x8, x9, x10] 31)) [.int .i64 0, .int .i64 0, .bool false, .slice none 0 0, .slice none 0 0, .bool false, .slice none 0 0, .slice none 0 0, .string { data := #[] }, .slice none 0 0, .slice none 0 0] 31
    have S2 := SB.new ((w.alloc (.cells #[x0, x1, x2, x3, x4, x5, x6, x7, x8, x9, x10] 31)).alloc (.cells #[.int .i64 0, .int .i64 0, .bool false, .slice none 0 0, .slice none 0 0, .bool false, .slice none 0 0, .slice none 0 0, .string { data := #[] }, .slice none 0 0, .slice none 0 0] 31)) [.int .i64 0, .int .i64 0, .bool false, .slice none 0 0, .slice none 0 0, .bool false, .slice none 0 0, .slice none 0 0, .string { data := #[] }, .slice none 0 0, .slice none 0 0] 31
    have B0 := bal w (.cells #[x0, x1, x2, x3, x4, x5, x6, x7, x8, x9, x10] 31)
    have B1 := bal (w.alloc (.cells #[x0, x1, x2, x3, x4, x5, x6, x7, x8, x9, x10] 31)) (.cells #[.int .i64 0, .int .i64 0, .bool false, .slice none 0 0, .slice none 0 0, .bool false, .slice none 0 0, .slice none 0 0, .string { data := #[] }, .slice none 0 0, .slice none 0 0] 31)
    have B2 := bal ((w.alloc (.cells #[x0, x1, x2, x3, x4, x5, x6, x7, x8, x9, x10] 31)).alloc (.cells #[.int .i64 0, .int .i64 0, .bool false, .slice none 0 0, .slice none 0 0, .bool false, .slice none 0 0, .slice none 0 0, .string { data := #[] }, .slice none 0 0, .slice none 0 0] 31)) (.cells #[.int .i64 0, .int .i64 0, .bool false, .slice none 0 0, .slice none 0 0, .bool false, .slice none 0 0, .slice none 0 0, .string { data := #[] }, .slice none 0 0, .slice none 0 0] 31)
    replace S1 := S1.nx B2
    replace S0 := (S0.nx B1).nx B2
    have BB := bt (bt B0 B1) B2
    rw [z1] at S1
    rw [z2] at S2
    have S3 := S2.cells [x0, x1, x2, x3, x4, x5, x6, x7, x8, x9, x10] rfl
    have S13 := S1.cells_far (g := w.heap.size + 1 + 1) (by omega) [x0, x1, x2, x3, x4, x5, x6, x7, x8, x9, x10]
    have BW := below_cs BB (b := w.heap.size + 1 + 1) (by omega) [x0, x1, x2, x3, x4, x5, x6, x7, x8, x9, x10]
    have RW_ := RD.step BW (Nat.le_refl _) hR
    obtain ⟨W3, hW3⟩ : ∃ W3, W3 = (((w.alloc (.cells #[x0, x1, x2, x3, x4, x5, x6, x7, x8, x9, x10] 31)).alloc (.cells #[.int .i64 0, .int .i64 0, .bool false, .slice none 0 0, .slice none 0 0, .bool false, .slice none 0 0, .slice none 0 0, .string { data := #[] }, .slice none 0 0, .slice none 0 0] 31)).alloc (.cells #[.int .i64 0, .int .i64 0, .bool false, .slice none 0 0, .slice none 0 0, .bool false, .slice none 0 0, .slice none 0 0, .string { data := #[] }, .slice none 0 0, .slice none 0 0] 31)).setCells (w.heap.size + 1 + 1) 0 [x0, x1, x2, x3, x4, x5, x6, x7, x8, x9, x10] := ⟨_, rfl⟩
    rw [← hW3] at S3 S13 BW RW_
    replace hW3 := Lib.hid hW3
    clear S1 BB z1 z2 B0 B1 B2 hR
    go_enter Tryd.func33, Tryd.ntmps33
    have k0 := S0.cell 0; have k1 := S0.cell 1; have k2 := S0.cell 2; have k3 := S0.cell 3; have k4 := S0.cell 4; have k5 := S0.cell 5; have k6 := S0.cell 6; have k7 := S0.cell 7; have k8 := S0.cell 8; have k9 := S0.cell 9; have k10 := S0.cell 10
    go_upto_region 3 with (refine wp_stD rfl rfl (.tmp 3) (.tmp 8) rfl (w.heap.size + 1 + 1) rfl [x0, x1, x2, x3, x4, x5, x6, x7, x8, x9, x10] rfl rfl _ S2 rfl dO ?_; rw [← hW3.out])
    clear k0 k1 k2 k3 k4 k5 k6 k7 k8 k9 k10 S0 S2 hW3 dO
    have hsz : w.heap.size ≤ w.heap.size := Nat.le_refl _
    generalize hn : w.heap.size = n at *
    have hole0 : Hole n W3 (n + 2) 0 d d := fun w2 cs2 _ h1 h2 h3 => ⟨cs2, h1, h2, h3⟩
    go_loopg [4] (SizeOf.sizeOf d) (fun gk s4 wx => ∃ (q : Dat) (cs : List Value) (b o : Nat), s4 = .pointer (some ⟨b, o, none⟩) ∧ SizeOf.sizeOf q ≤ gk ∧ SizeOf.sizeOf q ≤ m + 1 ∧ q.Fit vv ∧ RD wx n q (.agg cs.toArray) ∧ SO wx b o cs ∧ SB wx (n + 1) [.int .i64 0, .int .i64 0, .bool false, .slice none 0 0, .slice none 0 0, .bool false, .slice none 0 0, .slice none 0 0, .string { data := #[] }, .slice none 0 0, .slice none 0 0] ∧ n + 2 ≤ b ∧ Hole n wx b o q d ∧ Below n w wx)
    case atStart => exact ⟨d, _, n + 2, 0, rfl, Nat.le_refl _, hd, fd, RW_, S3.so, S13, Nat.le_refl _, hole0, BW⟩
    case round =>
      obtain ⟨q, cs, b, o, rfl, hk1, hk2, fq, R, SC, SZ, hbn, hole, BX⟩ := hrel
      clear S3 S13 RW_ hole0 BW
      have hbw := SC.2
      have hnz : n + 1 ≠ b := by omega
      have hnw : n < wr.heap.size := by omega
      obtain ⟨A1p, c1p, D1p, d1p, A2p, c2p, D2p, d2p, Rp, rcp, Lp, lcp, hv, ⟨ra1, ra2, ra3, ra4, ra5⟩, hbd, hlc, hkids⟩ := R.view
      have hcs2 : cs = [.int .i64 q.k, .int .i64 q.n, .bool q.re.s, .slice A1p q.re.a.length c1p, .slice D1p q.re.b.length d1p, .bool q.im.s, .slice A2p q.im.a.length c2p, .slice D2p q.im.b.length d2p, .string q.t, .slice Rp q.raw.length rcp, .slice Lp q.l.length lcp] := congrArg Array.toList (Value.agg.inj hv)
      subst hcs2
      clear hv
      have c9 := SC.cell 9
      have hbig := RL.big ra5
      go_upto_region 4 with (at_builtin; refine wp_appB _ rfl _ _ rfl wr.heap.size none 0 0 [] rfl rfl (OL.nil _ _ _ _) Rp rcp _ q.raw rfl rfl n ra5 (by simp; omega) (Nat.le_refl _) ?_; intro R1 rc1 w1 O1 G1 B1; rw [List.nil_append] at O1 ⊢; have f9 := (SC.nx B1).frozen 9; have c9 := (SC.nx B1).cell 9)
      obtain ⟨w2, hw2⟩ : ∃ w2, w2 = w1.setCell ⟨b, o + 9, none⟩ (.slice R1 q.raw.length rc1) := ⟨_, rfl⟩
      have SC2 : SO w2 b o [.int .i64 q.k, .int .i64 q.n, .bool q.re.s, .slice A1p q.re.a.length c1p, .slice D1p q.re.b.length d1p, .bool q.im.s, .slice A2p q.im.a.length c2p, .slice D2p q.im.b.length d2p, .string q.t, .slice R1 q.raw.length rc1, .slice Lp q.l.length lcp] := by rw [hw2]; exact (SC.nx B1).set 9 (.slice R1 q.raw.length rc1)
      have SZ2 : SB w2 (n + 1) [.int .i64 0, .int .i64 0, .bool false, .slice none 0 0, .slice none 0 0, .bool false, .slice none 0 0, .slice none 0 0, .string { data := #[] }, .slice none 0 0, .slice none 0 0] := by rw [hw2]; exact (SZ.nx B1).far (p := ⟨b, o + 9, none⟩) hnz _
      have AG2 : Agr n wr w2 b o := by rw [hw2]; exact ((Agr.refl n wr b o).nx B1 hbw).set 9 (by omega) _
      have BX2 : Below n w w2 := by rw [hw2]; exact (BX.trans (B1.mono (Nat.le_of_lt hnw))).setCell (p := ⟨b, o + 9, none⟩) (by show n ≤ b; omega) _
      have rr : RLP f8 w2 (Bet wr.heap.size w2.heap.size) R1 rc1 q.raw := by
        rw [hw2]
        refine (BP.new O1).step (fun z hz => ?_) (fun z hz => ⟨hz.1, by simpa [World.setCell] using hz.2⟩)
        exact Below.heap_setCell w1 ⟨b, o + 9, none⟩ _ z (fun e => by have := hz.1; simp only at e; omega)
      have Bo : Below n wr w2 := by rw [hw2]; exact (B1.mono (Nat.le_of_lt hnw)).setCell (p := ⟨b, o + 9, none⟩) (by show n ≤ b; omega) _
      rw [← hw2]
      clear hw2 c9 SC SZ B1 G1 O1
      have ra1 := ra1.step Bo (Nat.le_refl _)
      have ra2 := ra2.step Bo (Nat.le_refl _)
      have ra3 := ra3.step Bo (Nat.le_refl _)
      have ra4 := ra4.step Bo (Nat.le_refl _)
      clear Bo
      have hw2s : wr.heap.size ≤ w2.heap.size := AG2.size
      have c0 := SC2.cell 0
      simp only [Nat.add_zero] at c0
      obtain ⟨b3, hb3⟩ : ∃ b3, (q.k == 3) = b3 := ⟨_, rfl⟩
      go_upto_if 21 with fail
      clear c0
      go_cut [] (fun wx => ∃ A12 c12 D12 d12 A22 c22 D22 d22, SO wx b o [.int .i64 q.k, .int .i64 q.n, .bool q.re.s, .slice A12 q.re.a.length c12, .slice D12 q.re.b.length d12, .bool q.im.s, .slice A22 q.im.a.length c22, .slice D22 q.im.b.length d22, .string q.t, .slice R1 q.raw.length rc1, .slice Lp q.l.length lcp] ∧ (WP wx (Bet wr.heap.size wx.heap.size) A12 c12 q.re.a ∧ WP wx (Bet wr.heap.size wx.heap.size) D12 d12 q.re.b ∧ WP wx (Bet wr.heap.size wx.heap.size) A22 c22 q.im.a ∧ WP wx (Bet wr.heap.size wx.heap.size) D22 d22 q.im.b ∧ RLP f8 wx (Bet wr.heap.size wx.heap.size) R1 rc1 q.raw) ∧ SB wx (n + 1) [.int .i64 0, .int .i64 0, .bool false, .slice none 0 0, .slice none 0 0, .bool false, .slice none 0 0, .slice none 0 0, .string { data := #[] }, .slice none 0 0, .slice none 0 0] ∧ Agr n wr wx b o ∧ Below n w wx)
      case first =>
        cases b3 with
        | false =>
          have h3 : ¬ q.k = 3 := fun e => by rw [e] at hb3; cases hb3
          obtain ⟨er, ei⟩ := (shape_parts fq.shape).1 h3
          go_wp2_with fail
          go_meet
          exact ⟨_, _, _, _, _, _, _, _, SC2, ⟨by rw [er]; exact WP.nil _ _ _ _, by rw [er]; exact WP.nil _ _ _ _, by rw [ei]; exact WP.nil _ _ _ _, by rw [ei]; exact WP.nil _ _ _ _, rr⟩, SZ2, AG2, BX2⟩
        | true =>
          have h3 : q.k = 3 := eq_of_beq hb3
          have hnb : nB q.re q.im = true := by
            have h1 := fq.shape
            unfold Dat.shape at h1
            rw [if_pos h3, Bool.and_eq_true] at h1
            exact h1.1
          have Dw := (Below.refl w2.heap.size w2).drew
          go_upto_region 5 with fail
          have SC3 := SC2.nx Dw
          have SZ3 := SZ2.nx Dw
          have AG3 := AG2.nx Dw hbw
          have BX3 : Below n w w2.drew := bdN BX2 1
          have rr3 := rr.nx Dw
          have vn : VN w2.drew w2.drew.heap.size (.agg #[.bool q.re.s, .slice A1p q.re.a.length c1p, .slice D1p q.re.b.length d1p, .bool q.im.s, .slice A2p q.im.a.length c2p, .slice D2p q.im.b.length d2p]) q.re q.im := ⟨A1p, c1p, D1p, d1p, A2p, c2p, D2p, d2p, rfl, RW.step ra1 (Dw.mono (by omega)) (by have := Dw.size; omega), RW.step ra2 (Dw.mono (by omega)) (by have := Dw.size; omega), RW.step ra3 (Dw.mono (by omega)) (by have := Dw.size; omega), RW.step ra4 (Dw.mono (by omega)) (by have := Dw.size; omega)⟩
          have hws : wr.heap.size ≤ w2.drew.heap.size := Nat.le_trans hw2s Dw.size
          have rng : w2.drew.rangeAt b (o + 2) [.bool q.re.s, .slice A1p q.re.a.length c1p, .slice D1p q.re.b.length d1p, .bool q.im.s, .slice A2p q.im.a.length c2p, .slice D2p q.im.b.length d2p] := fun j u hj => by
            have h6 : j < 6 := (List.getElem?_eq_some_iff.1 hj).1
            match j, h6 with
            | 0, _ => cases hj; exact SC3.cell 2
            | 1, _ => cases hj; exact SC3.cell 3
            | 2, _ => cases hj; exact SC3.cell 4
            | 3, _ => cases hj; exact SC3.cell 5
            | 4, _ => cases hj; exact SC3.cell 6
            | 5, _ => cases hj; exact SC3.cell 7
          refine AnyV.regionQ 13 13 (fun _ => True) rfl (by kernel_rfl) (by kernel_rfl) (by repeat (first | refine quiet_then ?_ | refine quiet_block ?_ | exact quiet_body)) trivial (fun Q hQK hq hns hHeld => ?_)
          generalize w2.drew = w4 at *
          clear SC2 SZ2 AG2 BX2 rr Dw
          refine AnyV.next (i := 0) (v := ?_) hq hns hHeld rfl rfl (by kernel_rfl) (Or.inl ⟨by rfl, ?_⟩) ?_
          rotate_left
          · intro w' hSw; (try dsimp only at hSw); go_simp <;> with_reducible rfl
          try simp only [List.setIfInBounds_toArray, List.set_cons_zero, List.set_cons_succ]
          refine AnyV.next (i := 1) (v := ?_) hq hns hHeld rfl rfl (by kernel_rfl) (Or.inl ⟨by rfl, ?_⟩) ?_
          rotate_left
          · intro w' hSw; (try dsimp only at hSw); go_simp <;> with_reducible rfl
          try simp only [List.setIfInBounds_toArray, List.set_cons_zero, List.set_cons_succ]
          refine AnyV.next (i := 2) (v := ?_) hq hns hHeld rfl rfl (by kernel_rfl) (Or.inl ⟨by rfl, ?_⟩) ?_
          rotate_left
          · intro w' hSw; (try dsimp only at hSw); go_simp <;> with_reducible rfl
          try simp only [List.setIfInBounds_toArray, List.set_cons_zero, List.set_cons_succ]
          refine AnyV.next (i := 3) (v := ?_) hq hns hHeld rfl rfl (by kernel_rfl) (Or.inl ⟨by rfl, ?_⟩) ?_
          rotate_left
          · intro w' hSw; (try dsimp only at hSw); go_simp <;> with_reducible rfl
          try simp only [List.setIfInBounds_toArray, List.set_cons_zero, List.set_cons_succ]
          refine AnyV.two (i := 4) (j := 5) (by kernel_rfl) ?_ ?_
          · refine USomeV.mk rfl (fun K hK => ?_)
            refine step_ldN rfl (.tmp 26) rfl b (o + 2) rfl [.bool q.re.s, .slice A1p q.re.a.length c1p, .slice D1p q.re.b.length d1p, .bool q.im.s, .slice A2p q.im.a.length c2p, .slice D2p q.im.b.length d2p] rng rfl ?_
            refine hK.out _ _ (.inr trivial) (fun _ => ?_)
            clear hK K
            try simp only [List.setIfInBounds_toArray, List.set_cons_zero, List.set_cons_succ]
            refine AnyV.one 5 (by kernel_rfl) rfl (fun K hK => ?_)
            go_simp
            refine (int_any 0 w4 (by omega) (by omega)).mono ?_
            rintro e w5 ⟨G1, g1, H1, h1, G2, g2, H2, h2, rfl, o1, o2, o3, o4, B5⟩
            rw [show (((0 : Int) : Rat)) = 0 by rfl] at o1 o2 ⊢
            have vn0 : VN w5 w5.heap.size (.agg #[.bool (rwq 0).s, .slice G1 (rwq 0).a.length g1, .slice H1 (rwq 0).b.length h1, .bool (rwq 0).s, .slice G2 (rwq 0).a.length g2, .slice H2 (rwq 0).b.length h2]) (rwq 0) (rwq 0) := ⟨_, _, _, _, _, _, _, _, rfl, o1.rw, o2.rw, o3.rw, o4.rw⟩
            have hadd := eadd_any (vn.st B5) vn0
            rw [add_zero_q hnb] at hadd
            have rng5 : w5.rangeAt b (o + 2) [.bool q.re.s, .slice A1p q.re.a.length c1p, .slice D1p q.re.b.length d1p, .bool q.im.s, .slice A2p q.im.a.length c2p, .slice D2p q.im.b.length d2p] := fun j u hj => (B5.cell (p := ⟨b, o + 2 + j, none⟩) (by show b < _; omega)).trans (rng j u hj)
            clear o1 o2 o3 o4 vn0
            generalize rwq 0 = OO at *
            go_wp2_with fail
            refine hK.out _ _ (.inr trivial) (fun _ => ?_)
            clear hK K
            try simp only [List.setIfInBounds_toArray, List.set_cons_zero, List.set_cons_succ]
            refine AnyV.one 6 (by kernel_rfl) rfl (fun K hK => ?_)
            go_simp
            refine hadd.mono ?_
            rintro e w6 ⟨A12, c12, D12, d12, A22, c22, D22, d22, rfl, o1, o2, o3, o4, B6⟩
            simp only at o1 o2 o3 o4 ⊢
            have B56 := bt B5 B6
            go_wp2_with fail
            refine hK.out _ _ (.inr trivial) (fun _ => ?_)
            clear hK K
            try simp only [List.setIfInBounds_toArray, List.set_cons_zero, List.set_cons_succ]
            refine AnyV.next (i := 7) (v := ?_) hq hns hHeld rfl rfl (by kernel_rfl) (Or.inl ⟨by rfl, ?_⟩) ?_
            rotate_left
            · intro w' hSw; (try dsimp only at hSw); go_simp <;> with_reducible rfl
            try simp only [List.setIfInBounds_toArray, List.set_cons_zero, List.set_cons_succ]
            refine AnyV.next (i := 8) (v := ?_) hq hns hHeld rfl rfl (by kernel_rfl) (Or.inl ⟨by rfl, ?_⟩) ?_
            rotate_left
            · intro w' hSw; (try dsimp only at hSw); go_simp <;> with_reducible rfl
            try simp only [List.setIfInBounds_toArray, List.set_cons_zero, List.set_cons_succ]
            refine AnyV.next (i := 9) (v := ?_) hq hns hHeld rfl rfl (by kernel_rfl) (Or.inl ⟨by rfl, ?_⟩) ?_
            rotate_left
            · intro w' hSw; (try dsimp only at hSw); go_simp <;> with_reducible rfl
            try simp only [List.setIfInBounds_toArray, List.set_cons_zero, List.set_cons_succ]
            refine AnyV.next (i := 10) (v := ?_) hq hns hHeld rfl rfl (by kernel_rfl) (Or.inl ⟨by rfl, ?_⟩) ?_
            rotate_left
            · intro w' hSw; (try dsimp only at hSw); go_simp <;> with_reducible rfl
            try simp only [List.setIfInBounds_toArray, List.set_cons_zero, List.set_cons_succ]
            refine AnyV.next (i := 11) (v := ?_) hq hns hHeld rfl rfl (by kernel_rfl) (Or.inl ⟨by rfl, ?_⟩) ?_
            rotate_left
            · intro w' hSw; (try dsimp only at hSw); go_simp <;> with_reducible rfl
            try simp only [List.setIfInBounds_toArray, List.set_cons_zero, List.set_cons_succ]
            have SC6 := SC3.nx B56
            have SC7 : SO (w6.setCells b (o + 2) [.bool q.re.s, .slice A12 q.re.a.length c12, .slice D12 q.re.b.length d12, .bool q.im.s, .slice A22 q.im.a.length c22, .slice D22 q.im.b.length d22]) b o [.int .i64 q.k, .int .i64 q.n, .bool q.re.s, .slice A12 q.re.a.length c12, .slice D12 q.re.b.length d12, .bool q.im.s, .slice A22 q.im.a.length c22, .slice D22 q.im.b.length d22, .string q.t, .slice R1 q.raw.length rc1, .slice Lp q.l.length lcp] := SC6.sets 2 [.bool q.re.s, .slice A12 q.re.a.length c12, .slice D12 q.re.b.length d12, .bool q.im.s, .slice A22 q.im.a.length c22, .slice D22 q.im.b.length d22] (by show 2 + 6 ≤ 11; decide)
            have SZ7 : SB (w6.setCells b (o + 2) [.bool q.re.s, .slice A12 q.re.a.length c12, .slice D12 q.re.b.length d12, .bool q.im.s, .slice A22 q.im.a.length c22, .slice D22 q.im.b.length d22]) (n + 1) [.int .i64 0, .int .i64 0, .bool false, .slice none 0 0, .slice none 0 0, .bool false, .slice none 0 0, .slice none 0 0, .string { data := #[] }, .slice none 0 0, .slice none 0 0] := SB.scs (SZ3.nx B56) hnz _ _
            have AG7 : Agr n wr (w6.setCells b (o + 2) [.bool q.re.s, .slice A12 q.re.a.length c12, .slice D12 q.re.b.length d12, .bool q.im.s, .slice A22 q.im.a.length c22, .slice D22 q.im.b.length d22]) b o := (AG3.nx B56 hbw).sets 2 [.bool q.re.s, .slice A12 q.re.a.length c12, .slice D12 q.re.b.length d12, .bool q.im.s, .slice A22 q.im.a.length c22, .slice D22 q.im.b.length d22] (by show 2 + 6 ≤ 11; decide)
            have BX7 : Below n w (w6.setCells b (o + 2) [.bool q.re.s, .slice A12 q.re.a.length c12, .slice D12 q.re.b.length d12, .bool q.im.s, .slice A22 q.im.a.length c22, .slice D22 q.im.b.length d22]) := below_cso (BX3.trans (B56.mono (by omega))) (by omega) _ _
            have hs5 : wr.heap.size ≤ w5.heap.size := Nat.le_trans hws B5.size
            have hszz : (w6.setCells b (o + 2) [.bool q.re.s, .slice A12 q.re.a.length c12, .slice D12 q.re.b.length d12, .bool q.im.s, .slice A22 q.im.a.length c22, .slice D22 q.im.b.length d22]).heap.size = w6.heap.size := size_sc _ _ _ _
            have lift : ∀ {A : Option Addr} {c : Nat} {l : List Nat}, OW w6 w5.heap.size A c l → WP (w6.setCells b (o + 2) [.bool q.re.s, .slice A12 q.re.a.length c12, .slice D12 q.re.b.length d12, .bool q.im.s, .slice A22 q.im.a.length c22, .slice D22 q.im.b.length d22]) (Bet wr.heap.size (w6.setCells b (o + 2) [.bool q.re.s, .slice A12 q.re.a.length c12, .slice D12 q.re.b.length d12, .bool q.im.s, .slice A22 q.im.a.length c22, .slice D22 q.im.b.length d22]).heap.size) A c l := fun h => by
              rw [hszz]
              exact (WP.new (h.base_le hs5)).sc (Nat.le_refl _) (.inl hbw) _ _
            have rr7 : RLP f8 (w6.setCells b (o + 2) [.bool q.re.s, .slice A12 q.re.a.length c12, .slice D12 q.re.b.length d12, .bool q.im.s, .slice A22 q.im.a.length c22, .slice D22 q.im.b.length d22]) (Bet wr.heap.size (w6.setCells b (o + 2) [.bool q.re.s, .slice A12 q.re.a.length c12, .slice D12 q.re.b.length d12, .bool q.im.s, .slice A22 q.im.a.length c22, .slice D22 q.im.b.length d22]).heap.size) R1 rc1 q.raw := by
              rw [hszz]
              exact (rr3.nx B56).sc (Nat.le_refl _) (.inl hbw) _ _
            refine AnyV.one 12 (by kernel_rfl) rfl (fun K hK => ?_)
            refine step_stN rfl rfl (.tmp 33) (.tmp 30) rfl b o 2 rfl [.bool q.re.s, .slice A12 q.re.a.length c12, .slice D12 q.re.b.length d12, .bool q.im.s, .slice A22 q.im.a.length c22, .slice D22 q.im.b.length d22] rfl rfl _ SC6 (by show 2 + 6 ≤ 11; decide) (fun v hv => by
              simp only [List.mem_cons, List.not_mem_nil, or_false] at hv
              rcases hv with rfl | rfl | rfl | rfl | rfl | rfl <;> rfl) ?_
            refine hK.out _ _ (.inr trivial) (fun _ => ?_)
            clear hK K
            try simp only [List.setIfInBounds_toArray, List.set_cons_zero, List.set_cons_succ]
            refine AnyV.done (by kernel_rfl) (hQK.out _ _ ?_)
            clear hQK hq hns hHeld
            go_wp2_with fail
            go_meet
            exact ⟨_, _, _, _, _, _, _, _, SC7, ⟨lift o1, lift o2, lift o3, lift o4, rr7⟩, SZ7, AG7, BX7⟩
          · refine USomeV.mk rfl (fun K hK => ?_)
            go_simp
            refine (int_any 0 w4 (by omega) (by omega)).mono ?_
            rintro e w5 ⟨G1, g1, H1, h1, G2, g2, H2, h2, rfl, o1, o2, o3, o4, B5⟩
            rw [show (((0 : Int) : Rat)) = 0 by rfl] at o1 o2 ⊢
            have vn0 : VN w5 w5.heap.size (.agg #[.bool (rwq 0).s, .slice G1 (rwq 0).a.length g1, .slice H1 (rwq 0).b.length h1, .bool (rwq 0).s, .slice G2 (rwq 0).a.length g2, .slice H2 (rwq 0).b.length h2]) (rwq 0) (rwq 0) := ⟨_, _, _, _, _, _, _, _, rfl, o1.rw, o2.rw, o3.rw, o4.rw⟩
            have hadd := eadd_any (vn.st B5) vn0
            rw [add_zero_q hnb] at hadd
            have rng5 : w5.rangeAt b (o + 2) [.bool q.re.s, .slice A1p q.re.a.length c1p, .slice D1p q.re.b.length d1p, .bool q.im.s, .slice A2p q.im.a.length c2p, .slice D2p q.im.b.length d2p] := fun j u hj => (B5.cell (p := ⟨b, o + 2 + j, none⟩) (by show b < _; omega)).trans (rng j u hj)
            clear o1 o2 o3 o4 vn0
            generalize rwq 0 = OO at *
            go_wp2_with fail
            refine hK.out _ _ (.inr trivial) (fun _ => ?_)
            clear hK K
            try simp only [List.setIfInBounds_toArray, List.set_cons_zero, List.set_cons_succ]
            refine AnyV.one 4 (by kernel_rfl) rfl (fun K hK => ?_)
            refine step_ldN rfl (.tmp 26) rfl b (o + 2) rfl [.bool q.re.s, .slice A1p q.re.a.length c1p, .slice D1p q.re.b.length d1p, .bool q.im.s, .slice A2p q.im.a.length c2p, .slice D2p q.im.b.length d2p] rng5 rfl ?_
            refine hK.out _ _ (.inr trivial) (fun _ => ?_)
            clear hK K
            try simp only [List.setIfInBounds_toArray, List.set_cons_zero, List.set_cons_succ]
            refine AnyV.one 6 (by kernel_rfl) rfl (fun K hK => ?_)
            go_simp
            refine hadd.mono ?_
            rintro e w6 ⟨A12, c12, D12, d12, A22, c22, D22, d22, rfl, o1, o2, o3, o4, B6⟩
            simp only at o1 o2 o3 o4 ⊢
            have B56 := bt B5 B6
            go_wp2_with fail
            refine hK.out _ _ (.inr trivial) (fun _ => ?_)
            clear hK K
            try simp only [List.setIfInBounds_toArray, List.set_cons_zero, List.set_cons_succ]
            refine AnyV.next (i := 7) (v := ?_) hq hns hHeld rfl rfl (by kernel_rfl) (Or.inl ⟨by rfl, ?_⟩) ?_
            rotate_left
            · intro w' hSw; (try dsimp only at hSw); go_simp <;> with_reducible rfl
            try simp only [List.setIfInBounds_toArray, List.set_cons_zero, List.set_cons_succ]
            refine AnyV.next (i := 8) (v := ?_) hq hns hHeld rfl rfl (by kernel_rfl) (Or.inl ⟨by rfl, ?_⟩) ?_
            rotate_left
            · intro w' hSw; (try dsimp only at hSw); go_simp <;> with_reducible rfl
            try simp only [List.setIfInBounds_toArray, List.set_cons_zero, List.set_cons_succ]
            refine AnyV.next (i := 9) (v := ?_) hq hns hHeld rfl rfl (by kernel_rfl) (Or.inl ⟨by rfl, ?_⟩) ?_
            rotate_left
            · intro w' hSw; (try dsimp only at hSw); go_simp <;> with_reducible rfl
            try simp only [List.setIfInBounds_toArray, List.set_cons_zero, List.set_cons_succ]
            refine AnyV.next (i := 10) (v := ?_) hq hns hHeld rfl rfl (by kernel_rfl) (Or.inl ⟨by rfl, ?_⟩) ?_
            rotate_left
            · intro w' hSw; (try dsimp only at hSw); go_simp <;> with_reducible rfl
            try simp only [List.setIfInBounds_toArray, List.set_cons_zero, List.set_cons_succ]
            refine AnyV.next (i := 11) (v := ?_) hq hns hHeld rfl rfl (by kernel_rfl) (Or.inl ⟨by rfl, ?_⟩) ?_
            rotate_left
            · intro w' hSw; (try dsimp only at hSw); go_simp <;> with_reducible rfl
            try simp only [List.setIfInBounds_toArray, List.set_cons_zero, List.set_cons_succ]
            have SC6 := SC3.nx B56
            have SC7 : SO (w6.setCells b (o + 2) [.bool q.re.s, .slice A12 q.re.a.length c12, .slice D12 q.re.b.length d12, .bool q.im.s, .slice A22 q.im.a.length c22, .slice D22 q.im.b.length d22]) b o [.int .i64 q.k, .int .i64 q.n, .bool q.re.s, .slice A12 q.re.a.length c12, .slice D12 q.re.b.length d12, .bool q.im.s, .slice A22 q.im.a.length c22, .slice D22 q.im.b.length d22, .string q.t, .slice R1 q.raw.length rc1, .slice Lp q.l.length lcp] := SC6.sets 2 [.bool q.re.s, .slice A12 q.re.a.length c12, .slice D12 q.re.b.length d12, .bool q.im.s, .slice A22 q.im.a.length c22, .slice D22 q.im.b.length d22] (by show 2 + 6 ≤ 11; decide)
            have SZ7 : SB (w6.setCells b (o + 2) [.bool q.re.s, .slice A12 q.re.a.length c12, .slice D12 q.re.b.length d12, .bool q.im.s, .slice A22 q.im.a.length c22, .slice D22 q.im.b.length d22]) (n + 1) [.int .i64 0, .int .i64 0, .bool false, .slice none 0 0, .slice none 0 0, .bool false, .slice none 0 0, .slice none 0 0, .string { data := #[] }, .slice none 0 0, .slice none 0 0] := SB.scs (SZ3.nx B56) hnz _ _
            have AG7 : Agr n wr (w6.setCells b (o + 2) [.bool q.re.s, .slice A12 q.re.a.length c12, .slice D12 q.re.b.length d12, .bool q.im.s, .slice A22 q.im.a.length c22, .slice D22 q.im.b.length d22]) b o := (AG3.nx B56 hbw).sets 2 [.bool q.re.s, .slice A12 q.re.a.length c12, .slice D12 q.re.b.length d12, .bool q.im.s, .slice A22 q.im.a.length c22, .slice D22 q.im.b.length d22] (by show 2 + 6 ≤ 11; decide)
            have BX7 : Below n w (w6.setCells b (o + 2) [.bool q.re.s, .slice A12 q.re.a.length c12, .slice D12 q.re.b.length d12, .bool q.im.s, .slice A22 q.im.a.length c22, .slice D22 q.im.b.length d22]) := below_cso (BX3.trans (B56.mono (by omega))) (by omega) _ _
            have hs5 : wr.heap.size ≤ w5.heap.size := Nat.le_trans hws B5.size
            have hszz : (w6.setCells b (o + 2) [.bool q.re.s, .slice A12 q.re.a.length c12, .slice D12 q.re.b.length d12, .bool q.im.s, .slice A22 q.im.a.length c22, .slice D22 q.im.b.length d22]).heap.size = w6.heap.size := size_sc _ _ _ _
            have lift : ∀ {A : Option Addr} {c : Nat} {l : List Nat}, OW w6 w5.heap.size A c l → WP (w6.setCells b (o + 2) [.bool q.re.s, .slice A12 q.re.a.length c12, .slice D12 q.re.b.length d12, .bool q.im.s, .slice A22 q.im.a.length c22, .slice D22 q.im.b.length d22]) (Bet wr.heap.size (w6.setCells b (o + 2) [.bool q.re.s, .slice A12 q.re.a.length c12, .slice D12 q.re.b.length d12, .bool q.im.s, .slice A22 q.im.a.length c22, .slice D22 q.im.b.length d22]).heap.size) A c l := fun h => by
              rw [hszz]
              exact (WP.new (h.base_le hs5)).sc (Nat.le_refl _) (.inl hbw) _ _
            have rr7 : RLP f8 (w6.setCells b (o + 2) [.bool q.re.s, .slice A12 q.re.a.length c12, .slice D12 q.re.b.length d12, .bool q.im.s, .slice A22 q.im.a.length c22, .slice D22 q.im.b.length d22]) (Bet wr.heap.size (w6.setCells b (o + 2) [.bool q.re.s, .slice A12 q.re.a.length c12, .slice D12 q.re.b.length d12, .bool q.im.s, .slice A22 q.im.a.length c22, .slice D22 q.im.b.length d22]).heap.size) R1 rc1 q.raw := by
              rw [hszz]
              exact (rr3.nx B56).sc (Nat.le_refl _) (.inl hbw) _ _
            refine AnyV.one 12 (by kernel_rfl) rfl (fun K hK => ?_)
            refine step_stN rfl rfl (.tmp 33) (.tmp 30) rfl b o 2 rfl [.bool q.re.s, .slice A12 q.re.a.length c12, .slice D12 q.re.b.length d12, .bool q.im.s, .slice A22 q.im.a.length c22, .slice D22 q.im.b.length d22] rfl rfl _ SC6 (by show 2 + 6 ≤ 11; decide) (fun v hv => by
              simp only [List.mem_cons, List.not_mem_nil, or_false] at hv
              rcases hv with rfl | rfl | rfl | rfl | rfl | rfl <;> rfl) ?_
            refine hK.out _ _ (.inr trivial) (fun _ => ?_)
            clear hK K
            try simp only [List.setIfInBounds_toArray, List.set_cons_zero, List.set_cons_succ]
            refine AnyV.done (by kernel_rfl) (hQK.out _ _ ?_)
            clear hQK hq hns hHeld
            go_wp2_with fail
            go_meet
            exact ⟨_, _, _, _, _, _, _, _, SC7, ⟨lift o1, lift o2, lift o3, lift o4, rr7⟩, SZ7, AG7, BX7⟩
      case rest =>
        obtain ⟨A12, c12, D12, d12, A22, c22, D22, d22, SC4, ⟨v1, v2, v3, v4, v5⟩, SZ4, AG4, BX4⟩ := hcut
        generalize hw4 : wc = w4 at *
        generalize hwo : wr = wo at *
        clear hwo
        clear hw4 SC2 SZ2 AG2 BX2 rr ra1 ra2 ra3 ra4 ra5 hb3
        have hs4 : wo.heap.size ≤ w4.heap.size := AG4.size
        have hl20 := fq.len
        have c10 := SC4.cell 10
        go_upto_region 7 with (refine wp_makeD _ rfl (.tmp 38) (.tmp 38) rfl _ _ q.l.length rfl rfl rfl rfl hl20 ?_; intro w5 T5 hs5 B5)
        clear c10
        have hb4 := SC4.2
        have SC5 := SC4.nx B5
        have SZ5 := SZ4.nx B5
        have AG5 := AG4.nx B5 hbw
        have BX5 := BX4.trans (B5.mono (by omega))
        have v1 := v1.step (fun z hz => B5.block z hz.2) (fun z hz => hz)
        have v2 := v2.step (fun z hz => B5.block z hz.2) (fun z hz => hz)
        have v3 := v3.step (fun z hz => B5.block z hz.2) (fun z hz => hz)
        have v4 := v4.step (fun z hz => B5.block z hz.2) (fun z hz => hz)
        have v5 := v5.step (fun z hz => B5.block z hz.2) (fun z hz => hz)
        clear SC4 SZ4 AG4 BX4 B5
        generalize w4.heap.size = g at *
        have hgb : g ≠ b := by omega
        have c0 := SC5.cell 0
        simp only [Nat.add_zero] at c0
        by_cases h8 : q.k = 8
        · have t8 : (q.k != 8) = false := by rw [h8]; rfl
          obtain ⟨x, y, hxy⟩ := pair_two2 fq.shape h8
          obtain ⟨sh1, sh2, sh3, sh4, sh5⟩ := shape_parts fq.shape
          obtain ⟨er, ei⟩ := sh1 (by omega)
          have eraw := sh3 (by omega)
          have fx := fq.kids x (by rw [hxy]; simp)
          have fy := fq.kids y (by rw [hxy]; simp)
          have sx := Dat.lt_of_mem (d := q) (x := x) (by rw [hxy]; simp)
          have sy := Dat.lt_of_mem (d := q) (x := y) (by rw [hxy]; simp)
          have hql : q.l.length = 2 := by rw [hxy]; rfl
          obtain ⟨bL, off, hLe, hbL, hds⟩ := hkids (by omega)
          subst hLe
          rw [hxy] at hds
          obtain ⟨vx, Rx, cx⟩ := hds.get (i := 0) (x := x) rfl
          obtain ⟨vy, Ry, cy⟩ := hds.get (i := 1) (x := y) rfl
          obtain ⟨xs, rfl, xl, -⟩ := Rx.agg
          obtain ⟨ys, rfl, yl, yo⟩ := Ry.agg
          have Bw := Below.both BX BX5 AG5.size
          have cx : w5.rangeAt bL off xs := fun j u hj => (Bw.cell (p := ⟨bL, off + j, none⟩) hbL).trans (by have := cx _ rfl j u (by simpa using hj); simpa using this)
          have cy : w5.rangeAt bL (off + 11) ys := fun j u hj => (Bw.cell (p := ⟨bL, off + 11 + j, none⟩) hbL).trans (by have := cy _ rfl j u (by simpa using hj); simpa using this)
          have Rx := RD.step Bw (Nat.le_refl _) Rx
          replace h8 := Lib.hid h8
          clear hds v1 v2 v3 v4 v5 sh1 sh2 sh3 sh4 sh5
          go_upto_region 15 with fail
          clear c0
          have Dw := (Below.refl w5.heap.size w5).drew
          have SC6 := SC5.nx Dw
          have SZ6 := SZ5.nx Dw
          have AG6 := AG5.nx Dw hbw
          have BX6 : Below n w w5.drew := bdN BX5 1
          have T6 := there_nx T5 Dw hs5
          have hns : n ≤ w5.heap.size := by omega
          have cx6 : w5.drew.rangeAt bL off xs := cx
          have cy6 : w5.drew.rangeAt bL (off + 11) ys := cy
          have hn6 : n ≤ w5.drew.heap.size := Nat.le_trans hns Dw.size
          have hg6 : g < w5.drew.heap.size := Nat.lt_of_lt_of_le hs5 Dw.size
          have Rx6 : RD w5.drew w5.drew.heap.size x (.agg xs.toArray) := RD.step (Dw.mono hns) hn6 Rx
          have c10 := SC6.cell 10
          rw [hql] at c10
          have hl2 : (q.l.length : Int) = 2 := by rw [hql]; rfl
          clear SC5 SZ5 AG5 BX5 T5 cx cy Dw Rx Bw
          refine AnyV.regionQ 19 19 (fun w' => w'.cell? ⟨b, o + 10, none⟩ = some (.slice (some ⟨bL, off, none⟩) 2 lcp) ∧ w'.rangeAt bL off xs ∧ w'.rangeAt bL (off + 11) ys) rfl (by kernel_rfl) (by kernel_rfl) (by repeat (first | refine quiet_then ?_ | refine quiet_block ?_ | exact quiet_body)) ⟨c10, cx6, cy6⟩ (fun Q hQK hq hns hHeld => ?_)
          generalize w5.drew = w6 at *
          refine AnyV.next (i := 0) (v := ?_) hq hns hHeld rfl rfl (by kernel_rfl) (Or.inl ⟨by rfl, ?_⟩) ?_
          rotate_left
          · intro w' hSw; (try dsimp only at hSw); go_simp <;> with_reducible rfl
          try simp only [List.setIfInBounds_toArray, List.set_cons_zero, List.set_cons_succ]
          refine AnyV.next (i := 1) (v := ?_) hq hns hHeld rfl rfl (by kernel_rfl) (Or.inl ⟨by rfl, ?_⟩) ?_
          rotate_left
          · intro w' hSw; (try dsimp only at hSw); go_simp <;> with_reducible rfl
          try simp only [List.setIfInBounds_toArray, List.set_cons_zero, List.set_cons_succ]
          refine AnyV.next (i := 2) (v := ?_) hq hns hHeld rfl rfl (by kernel_rfl) (Or.inl ⟨by rfl, ?_⟩) ?_
          rotate_left
          · intro w' hSw; (try dsimp only at hSw); go_simp <;> with_reducible rfl
          try simp only [List.setIfInBounds_toArray, List.set_cons_zero, List.set_cons_succ]
          refine AnyV.next (i := 3) (v := ?_) hq hns hHeld rfl rfl (by kernel_rfl) (Or.inl ⟨by rfl, ?_⟩) ?_
          rotate_left
          · intro w' hSw; (try dsimp only at hSw); go_simp <;> with_reducible rfl
          try simp only [List.setIfInBounds_toArray, List.set_cons_zero, List.set_cons_succ]
          refine AnyV.next (i := 4) (v := ?_) hq hns hHeld rfl rfl (by kernel_rfl) (Or.inl ⟨by rfl, ?_⟩) ?_
          rotate_left
          · intro w' hSw; (try dsimp only at hSw); go_simp <;> with_reducible rfl
          try simp only [List.setIfInBounds_toArray, List.set_cons_zero, List.set_cons_succ]
          refine AnyV.next (i := 5) (v := ?_) hq hns hHeld rfl rfl (by kernel_rfl) (Or.inl ⟨by rfl, ?_⟩) ?_
          rotate_left
          · intro w' hSw; (try dsimp only at hSw); go_simp <;> with_reducible rfl
          try simp only [List.setIfInBounds_toArray, List.set_cons_zero, List.set_cons_succ]
          refine AnyV.next (i := 6) (v := ?_) hq hns hHeld rfl rfl (by kernel_rfl) (Or.inl ⟨by rfl, ?_⟩) ?_
          rotate_left
          · intro w' hSw; (try dsimp only at hSw); go_simp <;> with_reducible rfl
          try simp only [List.setIfInBounds_toArray, List.set_cons_zero, List.set_cons_succ]
          refine AnyV.next (i := 7) (v := .agg xs.toArray) hq hns hHeld rfl rfl (by kernel_rfl) (yieldsIf_load_mid (by rfl) 31 (.tmp 72) rfl bL off rfl xs _ (fun w' h => h.2.1) Tryd.underlying31 rfl (infoD.trans (by rw [xl]))) ?_
          try simp only [List.setIfInBounds_toArray, List.set_cons_zero, List.set_cons_succ]
          refine AnyV.next (i := 9) (v := ?_) hq hns hHeld rfl rfl (by kernel_rfl) (Or.inl ⟨by rfl, ?_⟩) ?_
          rotate_left
          · intro w' hSw; (try dsimp only at hSw); go_simp <;> with_reducible rfl
          try simp only [List.setIfInBounds_toArray, List.set_cons_zero, List.set_cons_succ]
          refine AnyV.next (i := 10) (v := ?_) hq hns hHeld rfl rfl (by kernel_rfl) (Or.inl ⟨by rfl, ?_⟩) ?_
          rotate_left
          · intro w' hSw; (try dsimp only at hSw); go_simp <;> with_reducible rfl
          try simp only [List.setIfInBounds_toArray, List.set_cons_zero, List.set_cons_succ]
          refine AnyV.next (i := 11) (v := ?_) hq hns hHeld rfl rfl (by kernel_rfl) (Or.inl ⟨by rfl, ?_⟩) ?_
          rotate_left
          · intro w' hSw; (try dsimp only at hSw); go_simp <;> with_reducible rfl
          try simp only [List.setIfInBounds_toArray, List.set_cons_zero, List.set_cons_succ]
          refine AnyV.next (i := 12) (v := ?_) hq hns hHeld rfl rfl (by kernel_rfl) (Or.inl ⟨by rfl, ?_⟩) ?_
          rotate_left
          · intro w' hSw; (try dsimp only at hSw); go_simp <;> with_reducible rfl
          try simp only [List.setIfInBounds_toArray, List.set_cons_zero, List.set_cons_succ]
          refine AnyV.next (i := 13) (v := ?_) hq hns hHeld rfl rfl (by kernel_rfl) (Or.inl ⟨by rfl, ?_⟩) ?_
          rotate_left
          · intro w' hSw; (try dsimp only at hSw); go_simp <;> with_reducible rfl
          try simp only [List.setIfInBounds_toArray, List.set_cons_zero, List.set_cons_succ]
          refine AnyV.next (i := 14) (v := .agg ys.toArray) hq hns hHeld rfl rfl (by kernel_rfl) (yieldsIf_load_mid (by rfl) 31 (.tmp 79) rfl bL (off + 11) rfl ys _ (fun w' h => h.2.2) Tryd.underlying31 rfl (infoD.trans (by rw [yl]))) ?_
          try simp only [List.setIfInBounds_toArray, List.set_cons_zero, List.set_cons_succ]
          refine AnyV.one 8 (by kernel_rfl) rfl (fun K hK => ?_)
          go_simp
          refine (ih x (by omega) fx _ w6 Rx6).mono ?_
          rintro e w7 ⟨v', rfl, P7, B7⟩
          replace P7 : RDP w7 (Bet w6.heap.size w7.heap.size) x v' := P7
          obtain ⟨cs, rfl, cl, co⟩ := P7.agg
          have SC7 := SC6.nx B7
          have SZ7 := SZ6.nx B7
          have AG7 := AG6.nx B7 hbw
          have BX7 := BX6.trans (B7.mono hn6)
          have T7 := there_nx T6 B7 hg6
          have hg7 : g < w7.heap.size := Nat.lt_of_lt_of_le hg6 B7.size
          have c10 : w7.cell? ⟨b, o + 10, none⟩ = some (.slice (some ⟨bL, off, none⟩) 2 lcp) := by have := SC7.cell 10; rwa [hql] at this
          have cx7 : w7.rangeAt bL off xs := range_nx cx6 B7 (by omega)
          have cy7 : w7.rangeAt bL (off + 11) ys := range_nx cy6 B7 (by omega)
          go_wp2_with fail
          refine hK.out _ _ (.inr ⟨c10, cx7, cy7⟩) (fun hHeld => ?_)
          have hHeld := hHeld.resolve_left (by decide)
          clear SC6 SZ6 AG6 BX6 T6
          clear hK K
          try simp only [List.setIfInBounds_toArray, List.set_cons_zero, List.set_cons_succ]
          refine AnyV.next (i := 15) (v := ?_) hq hns hHeld rfl rfl (by kernel_rfl) (Or.inl ⟨by rfl, ?_⟩) ?_
          rotate_left
          · intro w' hSw; (try dsimp only at hSw); go_simp <;> with_reducible rfl
          try simp only [List.setIfInBounds_toArray, List.set_cons_zero, List.set_cons_succ]
          have T8 := there_set (o := 0) T7 cs
          have hgL : bL ≠ g := by omega
          refine AnyV.one 16 (by kernel_rfl) rfl (fun K hK => ?_)
          refine step_stDo rfl rfl (.tmp 81) (.tmp 74) rfl g 0 rfl cs rfl cl (there_sub T7 (Nat.le_refl _) (by omega)) co ?_
          refine hK.out _ _ (.inr ⟨by have := (SC7.scs (g := g) (fun e => hgb e.symm) 0 cs).cell 10; rwa [hql] at this, fun j u hj => (World.cell?_setCells_out g cs 0 w7 ⟨bL, off + j, none⟩ (fun e => absurd e hgL)).trans (cx7 j u hj), fun j u hj => (World.cell?_setCells_out g cs 0 w7 ⟨bL, off + 11 + j, none⟩ (fun e => absurd e hgL)).trans (cy7 j u hj)⟩) (fun hHeld => ?_)
          clear hK K
          try simp only [List.setIfInBounds_toArray, List.set_cons_zero, List.set_cons_succ]
          have hHeld := hHeld.resolve_left (by decide)
          refine AnyV.one 17 (by kernel_rfl) rfl (fun K hK => ?_)
          go_simp
          refine hK.out _ _ (.inr hHeld) (fun hHeld => ?_)
          have hHeld := hHeld.resolve_left (by decide)
          clear hK K
          try simp only [List.setIfInBounds_toArray, List.set_cons_zero, List.set_cons_succ]
          obtain ⟨w8, hw8⟩ : ∃ w8, w8 = w7.setCells g 0 cs := ⟨_, rfl⟩
          have hs8 : w8.heap.size = w7.heap.size := by rw [hw8]; exact size_sc _ _ _ _
          have SC8 : SO w8 b o [.int .i64 q.k, .int .i64 q.n, .bool q.re.s, .slice A12 q.re.a.length c12, .slice D12 q.re.b.length d12, .bool q.im.s, .slice A22 q.im.a.length c22, .slice D22 q.im.b.length d22, .string q.t, .slice R1 q.raw.length rc1, .slice (some ⟨bL, off, none⟩) q.l.length lcp] := by rw [hw8]; exact SC7.scs (fun e => hgb e.symm) _ _
          have SZ8 : SB w8 (n + 1) [.int .i64 0, .int .i64 0, .bool false, .slice none 0 0, .slice none 0 0, .bool false, .slice none 0 0, .slice none 0 0, .string { data := #[] }, .slice none 0 0, .slice none 0 0] := by rw [hw8]; exact SZ7.scs (by omega) _ _
          have AG8 : Agr n wo w8 b o := by rw [hw8]; exact AG7.news (by omega) hgb _ _
          have BX8 : Below n w w8 := by rw [hw8]; exact below_cso BX7 (by omega) _ _
          have rg8 : w8.rangeAt g 0 cs := by rw [hw8]; exact rangeAt_set cs fun j hj => (T7 j (by omega)).1
          have P8 : RDP w8 (Bet w6.heap.size w7.heap.size) x (.agg cs.toArray) := by rw [hw8]; exact P7.sc (Nat.le_refl _) (.inl hg6) _ _
          rw [← hw8] at T8 hHeld ⊢
          clear hw8 SC7 SZ7 AG7 BX7 T7 P7 cx7 cy7 c10
          have T9 := there_set (o := 11) T8 ys
          refine AnyV.one 18 (by kernel_rfl) rfl (fun K hK => ?_)
          refine step_stDo rfl rfl (.tmp 82) (.tmp 80) rfl g 11 rfl ys rfl yl (there_sub T8 (by omega) (by omega)) yo ?_
          refine hK.out _ _ (.inr ⟨by have := (SC8.scs (g := g) (fun e => hgb e.symm) 11 ys).cell 10; rwa [hql] at this, fun j u hj => (World.cell?_setCells_out g ys 11 w8 ⟨bL, off + j, none⟩ (fun e => absurd e hgL)).trans (hHeld.2.1 j u hj), fun j u hj => (World.cell?_setCells_out g ys 11 w8 ⟨bL, off + 11 + j, none⟩ (fun e => absurd e hgL)).trans (hHeld.2.2 j u hj)⟩) (fun _ => ?_)
          clear hK K
          try simp only [List.setIfInBounds_toArray, List.set_cons_zero, List.set_cons_succ]
          refine AnyV.done (by kernel_rfl) (hQK.out _ _ ?_)
          clear hQK hq hns hHeld
          obtain ⟨w9, hw9⟩ : ∃ w9, w9 = w8.setCells g 11 ys := ⟨_, rfl⟩
          have hs9 : w9.heap.size = w8.heap.size := by rw [hw9]; exact size_sc _ _ _ _
          have SC9 : SO w9 b o [.int .i64 q.k, .int .i64 q.n, .bool q.re.s, .slice A12 q.re.a.length c12, .slice D12 q.re.b.length d12, .bool q.im.s, .slice A22 q.im.a.length c22, .slice D22 q.im.b.length d22, .string q.t, .slice R1 q.raw.length rc1, .slice (some ⟨bL, off, none⟩) q.l.length lcp] := by rw [hw9]; exact SC8.scs (fun e => hgb e.symm) _ _
          have SZ9 : SB w9 (n + 1) [.int .i64 0, .int .i64 0, .bool false, .slice none 0 0, .slice none 0 0, .bool false, .slice none 0 0, .slice none 0 0, .string { data := #[] }, .slice none 0 0, .slice none 0 0] := by rw [hw9]; exact SZ8.scs (by omega) _ _
          have AG9 : Agr n wo w9 b o := by rw [hw9]; exact AG8.news (by omega) hgb _ _
          have BX9 : Below n w w9 := by rw [hw9]; exact below_cso BX8 (by omega) _ _
          have rg9 : w9.rangeAt g 0 cs := by rw [hw9]; exact rangeAt_far ys cs rg8 (.inl (by omega))
          have ry9 : w9.rangeAt g 11 ys := by rw [hw9]; exact rangeAt_set ys fun j hj => by have := (T8 (11 + j) (by omega)).1; rwa [Nat.zero_add] at this
          have P9 : RDP w9 (Bet w6.heap.size w7.heap.size) x (.agg cs.toArray) := by rw [hw9]; exact P8.sc (by omega) (.inl hg6) _ _
          rw [← hw9] at T9 ⊢
          clear hw9 SC8 SZ8 AG8 BX8 T8 P8 rg8
          have f10 := SC9.frozen 10
          have c10 := SC9.cell 10
          go_upto_region 17 with fail
          clear f10 c10
          obtain ⟨wz, hwz⟩ : ∃ wz, wz = w9.setCell ⟨b, o + 10, none⟩ (.slice (some ⟨g, 0, none⟩) 2 2) := ⟨_, rfl⟩
          have hsz : wz.heap.size = w9.heap.size := by rw [hwz]; simp [World.setCell]
          have SCz : SO wz b o [.int .i64 q.k, .int .i64 q.n, .bool q.re.s, .slice A12 q.re.a.length c12, .slice D12 q.re.b.length d12, .bool q.im.s, .slice A22 q.im.a.length c22, .slice D22 q.im.b.length d22, .string q.t, .slice R1 q.raw.length rc1, .slice (some ⟨g, 0, none⟩) q.l.length q.l.length] := by rw [hql, hwz]; exact SC9.set 10 _
          have SZz : SB wz (n + 1) [.int .i64 0, .int .i64 0, .bool false, .slice none 0 0, .slice none 0 0, .bool false, .slice none 0 0, .slice none 0 0, .string { data := #[] }, .slice none 0 0, .slice none 0 0] := by rw [hwz]; exact SZ9.far (p := ⟨b, o + 10, none⟩) hnz _
          have AGz : Agr n wo wz b o := by rw [hwz]; exact AG9.set 10 (by omega) _
          have BXz : Below n w wz := by rw [hwz]; exact BX9.setCell (p := ⟨b, o + 10, none⟩) (by show n ≤ b; omega) _
          have hbl : ∀ z, z ≠ b → wz.heap[z]? = w9.heap[z]? := fun z hz => by rw [hwz]; exact Below.heap_setCell w9 ⟨b, o + 10, none⟩ _ z hz
          have hgz : wz.heap[g]? = w9.heap[g]? := hbl g hgb
          have Ryz := RD.step (Below.both BX BXz AGz.size) (Nat.le_refl _) Ry
          have SYz : SO wz g 11 ys := ⟨fun j u hj => ⟨(cell_same hgz _).trans (ry9 j u hj), by
            rw [hwz, World.frozen?_setCell]
            have := (T9 (11 + j) (by have := (List.getElem?_eq_some_iff.1 hj).1; omega)).2
            rwa [Nat.zero_add] at this⟩, by omega⟩
          have holez : Hole n wz g 11 y d := fun w2 cs2 A2 l2 r2 rd2 => by
            have hb2 : w2.heap[b]? = wz.heap[b]? := A2.block b hbn (Nat.lt_of_lt_of_le hbw AGz.size) (fun e => hgb e.symm)
            refine hole w2 [.int .i64 q.k, .int .i64 q.n, .bool q.re.s, .slice A12 q.re.a.length c12, .slice D12 q.re.b.length d12, .bool q.im.s, .slice A22 q.im.a.length c22, .slice D22 q.im.b.length d22, .string q.t, .slice R1 q.raw.length rc1, .slice (some ⟨g, 0, none⟩) q.l.length q.l.length] ⟨Nat.le_trans AGz.size A2.size, fun z h1 h2 h3 => (A2.block z h1 (Nat.lt_of_lt_of_le h2 AGz.size) (by omega)).trans (AGz.block z h1 h2 h3), fun j hj => (cell_same hb2 _).trans (AGz.cell j hj)⟩ rfl (fun j u hj => (cell_same hb2 _).trans (SCz.range j u hj)) ?_
            refine RDP.mk_ (by rw [er]; exact WP.nil _ _ _ _) (by rw [er]; exact WP.nil _ _ _ _) (by rw [ei]; exact WP.nil _ _ _ _) (by rw [ei]; exact WP.nil _ _ _ _) (by rw [eraw]; exact RLP.nil _ _ _ _ _) hbd ⟨Nat.le_refl _, hlc.2⟩ (fun _ => ⟨g, 0, rfl, ⟨by omega, by have := A2.size; omega⟩, RDPs.of q.l 0 fun k z hk => ?_⟩)
            rw [hxy] at hk
            match k, hk with
            | 0, hk =>
              obtain rfl : x = z := by simpa using hk
              refine ⟨cs, cl, P9.step (fun z hz => ?_) (fun z hz => ⟨by have := hz.1; omega, by have := hz.2; have := A2.size; omega⟩), fun j u hj => ?_⟩
              · have h1 := hz.1
                have h2 := hz.2
                exact (A2.block z (by omega) (by omega) (by omega)).trans (hbl z (by omega))
              · have hj11 := (List.getElem?_eq_some_iff.1 hj).1
                have := rg9 j u hj
                rw [Nat.zero_add] at this
                rw [show 0 + 0 * 11 + j = j by omega]
                exact (A2.cell j (.inl (by omega))).trans ((cell_same hgz _).trans this)
            | 1, hk =>
              obtain rfl : y = z := by simpa using hk
              exact ⟨cs2, l2, rd2, fun j u hj => by rw [show 0 + 1 * 11 + j = 11 + j by omega]; exact r2 j u hj⟩
            | k + 2, hk => simp at hk
          rw [← hwz]
          clear hwz hbl hgz hole
          have hlz : (1 : Int) < (q.l.length : Int) := by omega
          go_wp2_with fail
          go_roundg (SizeOf.sizeOf y)
          case measure => omega
          case rel => exact ⟨y, ys, g, 11, rfl, Nat.le_refl _, by omega, fy, Ryz, SYz, SZz, by omega, holez, BXz⟩
        · have t8 : (q.k != 8) = true := bne_iff_ne.2 h8
          have c10 := SC5.cell 10
          go_upto_region 9 with fail
          clear c0 c10 h8 t8
          go_loopg [50] q.l.length (fun gk s50 wx => ∃ i : Nat, s50 = .int .i64 (i : Int) ∧ i ≤ q.l.length ∧ q.l.length - i = gk ∧ SO wx b o [.int .i64 q.k, .int .i64 q.n, .bool q.re.s, .slice A12 q.re.a.length c12, .slice D12 q.re.b.length d12, .bool q.im.s, .slice A22 q.im.a.length c22, .slice D22 q.im.b.length d22, .string q.t, .slice R1 q.raw.length rc1, .slice Lp q.l.length lcp] ∧ SB wx (n + 1) [.int .i64 0, .int .i64 0, .bool false, .slice none 0 0, .slice none 0 0, .bool false, .slice none 0 0, .slice none 0 0, .string { data := #[] }, .slice none 0 0, .slice none 0 0] ∧ Agr n wo wx b o ∧ Below n w wx ∧ wx.there g 0 (q.l.length * 11) ∧ (∀ z, Bet wo.heap.size g z → wx.heap[z]? = w5.heap[z]?) ∧ (∀ k x, k < i → q.l[k]? = some x → ∃ cs : List Value, cs.length = 11 ∧ RDP wx (Bet (g + 1) wx.heap.size) x (.agg cs.toArray) ∧ wx.rangeAt g (k * 11) cs) ∧ g < wx.heap.size)
          case atStart => exact ⟨0, rfl, Nat.zero_le _, rfl, SC5, SZ5, AG5, BX5, T5, fun _ _ => rfl, fun k x hk => absurd hk (by omega), hs5⟩
          case round =>
            obtain ⟨i, rfl, hil, hgi, SC6, SZ6, AG6, BX6, T6, V6, I6, hg6⟩ := hrel
            clear SC5 SZ5 AG5 BX5 T5
            have hw6 : wo.heap.size ≤ wr.heap.size := AG6.size
            have Bw := Below.both BX BX6 hw6
            by_cases hi : i < q.l.length
            · obtain ⟨bL, off, hLe, hbL, hds⟩ := hkids (by omega)
              subst hLe
              have hx1 := List.getElem?_eq_getElem hi
              have fx := fq.kids _ (List.getElem_mem hi)
              have hsz : SizeOf.sizeOf q.l[i] ≤ m := by have := Dat.lt_of_mem (d := q) (List.getElem_mem hi); omega
              obtain ⟨x, hxx⟩ : ∃ x, q.l[i] = x := ⟨_, rfl⟩
              rw [hxx] at hx1 fx hsz
              obtain ⟨vx, Rx, cx⟩ := hds.get hx1
              obtain ⟨xs, rfl, xl, xo⟩ := Rx.agg
              match xs, xl, xo with
              | [y0, y1, y2, y3, y4, y5, y6, y7, y8, y9, y10], _, xo =>
              have hcx : ∀ (j : Nat) (u : Value), [y0, y1, y2, y3, y4, y5, y6, y7, y8, y9, y10][j]? = some u → wr.cell? ⟨bL, off + i * 11 + j, none⟩ = some u := fun j u hj => (Bw.cell (p := ⟨bL, off + i * 11 + j, none⟩) hbL).trans (by have := cx _ rfl j u (by simpa using hj); simpa using this)
              have Rx := RD.step Bw (Nat.le_refl _) Rx
              have SZx := SB.new wr [.int .i64 0, .int .i64 0, .bool false, .slice none 0 0, .slice none 0 0, .bool false, .slice none 0 0, .slice none 0 0, .string { data := #[] }, .slice none 0 0, .slice none 0 0] 31
              have S9 := SZx.cells [y0, y1, y2, y3, y4, y5, y6, y7, y8, y9, y10] rfl
              have B9 := below_cs (bal wr (.cells #[.int .i64 0, .int .i64 0, .bool false, .slice none 0 0, .slice none 0 0, .bool false, .slice none 0 0, .slice none 0 0, .string { data := #[] }, .slice none 0 0, .slice none 0 0] 31)) (b := wr.heap.size) (Nat.le_refl _) [y0, y1, y2, y3, y4, y5, y6, y7, y8, y9, y10]
              obtain ⟨w9, hw9⟩ : ∃ w9, w9 = (wr.alloc (.cells #[.int .i64 0, .int .i64 0, .bool false, .slice none 0 0, .slice none 0 0, .bool false, .slice none 0 0, .slice none 0 0, .string { data := #[] }, .slice none 0 0, .slice none 0 0] 31)).setCells wr.heap.size 0 [y0, y1, y2, y3, y4, y5, y6, y7, y8, y9, y10] := ⟨_, rfl⟩
              rw [← hw9] at S9 B9
              replace hw9 := Lib.hid hw9
              have k0 := hcx 0 _ rfl; have k1 := hcx 1 _ rfl; have k2 := hcx 2 _ rfl; have k3 := hcx 3 _ rfl; have k4 := hcx 4 _ rfl; have k5 := hcx 5 _ rfl; have k6 := hcx 6 _ rfl; have k7 := hcx 7 _ rfl; have k8 := hcx 8 _ rfl; have k9 := hcx 9 _ rfl; have k10 := hcx 10 _ rfl
              simp only [Nat.add_zero] at k0
              have hli : (i : Int) < (q.l.length : Int) := by omega
              have hwi : IntKind.i64.wrap ((i : Int) + 1) = (i : Int) + 1 := IntWalk.i64_in _ (by omega)
              have hns : n ≤ wr.heap.size := by omega
              go_upto_region 11 with (refine wp_stD rfl rfl (.tmp 7) (.tmp 54) rfl wr.heap.size rfl [y0, y1, y2, y3, y4, y5, y6, y7, y8, y9, y10] rfl rfl _ SZx rfl xo ?_; rw [← hw9.out])
              clear k0 k1 k2 k3 k4 k5 k6 k7 k8 k9 k10
              clear SZx hw9 hcx
              have k0 := S9.cell 0; have k1 := S9.cell 1; have k2 := S9.cell 2; have k3 := S9.cell 3; have k4 := S9.cell 4; have k5 := S9.cell 5; have k6 := S9.cell 6; have k7 := S9.cell 7; have k8 := S9.cell 8; have k9 := S9.cell 9; have k10 := S9.cell 10
              have hs9 : wr.heap.size ≤ w9.heap.size := B9.size
              have R9 := RD.step (B9.mono hns) (Nat.le_trans hns hs9) Rx
              go_wp2_with fail
              refine (ih x hsz fx _ w9 R9).mono ?_
              rintro e w10 ⟨v', rfl, P10, B10⟩
              replace P10 : RDP w10 (Bet w9.heap.size w10.heap.size) x v' := P10
              obtain ⟨cs, rfl, cl, co⟩ := P10.agg
              clear k0 k1 k2 k3 k4 k5 k6 k7 k8 k9 k10
              have BA : Below wr.heap.size wr w10 := B9.trans (B10.mono hs9)
              have hs10 : wr.heap.size ≤ w10.heap.size := BA.size
              have SC10 := SC6.nx BA
              have SZ10 := SZ6.nx BA
              have AG10 := AG6.nx BA hbw
              have BX10 := BX6.trans (BA.mono hns)
              have T10 := there_nx T6 BA hg6
              clear B9 S9 R9 Rx
              go_wp2_with (refine wp_stDo rfl rfl (.tmp 59) (.tmp 58) rfl g (i * 11) rfl cs rfl cl (there_sub T10 (by omega) (by omega)) co ?_)
              obtain ⟨w11, hw11⟩ : ∃ w11, w11 = w10.setCells g (i * 11) cs := ⟨_, rfl⟩
              have hs11 : w11.heap.size = w10.heap.size := by rw [hw11]; exact size_sc _ _ _ _
              have SC11 : SO w11 b o [.int .i64 q.k, .int .i64 q.n, .bool q.re.s, .slice A12 q.re.a.length c12, .slice D12 q.re.b.length d12, .bool q.im.s, .slice A22 q.im.a.length c22, .slice D22 q.im.b.length d22, .string q.t, .slice R1 q.raw.length rc1, .slice (some ⟨bL, off, none⟩) q.l.length lcp] := by rw [hw11]; exact SC10.scs (fun e => hgb e.symm) _ _
              have SZ11 : SB w11 (n + 1) [.int .i64 0, .int .i64 0, .bool false, .slice none 0 0, .slice none 0 0, .bool false, .slice none 0 0, .slice none 0 0, .string { data := #[] }, .slice none 0 0, .slice none 0 0] := by rw [hw11]; exact SZ10.scs (by omega) _ _
              have AG11 : Agr n wo w11 b o := by rw [hw11]; exact AG10.news (by omega) hgb _ _
              have BX11 : Below n w w11 := by rw [hw11]; exact below_cso BX10 (by omega) _ _
              have T11 : w11.there g 0 (q.l.length * 11) := by rw [hw11]; exact there_set T10 cs
              have V11 : ∀ z, Bet wo.heap.size g z → w11.heap[z]? = w5.heap[z]? := fun z hz => by
                have h1 := hz.1
                have h2 := hz.2
                rw [hw11, World.heap_setCells_other w10 g (i * 11) cs (by omega) (by omega), BA.block z (by omega)]
                exact V6 z hz
              have I11 : ∀ k x, k < i + 1 → q.l[k]? = some x → ∃ cs : List Value, cs.length = 11 ∧ RDP w11 (Bet (g + 1) w11.heap.size) x (.agg cs.toArray) ∧ w11.rangeAt g (k * 11) cs := fun k x' hk hx' => by
                by_cases hki : k < i
                · obtain ⟨cs', cl', h1, h2⟩ := I6 k x' hki hx'
                  refine ⟨cs', cl', ?_, ?_⟩
                  · rw [hs11, hw11]
                    exact (h1.nx BA).sc (Nat.le_refl _) (.inl (by omega)) _ _
                  · rw [hw11]
                    exact rangeAt_far cs cs' (range_nx h2 BA hg6) (.inl (by omega))
                · obtain rfl : k = i := by omega
                  obtain rfl : x = x' := Option.some.inj (hx1.symm.trans hx')
                  refine ⟨cs, cl, ?_, ?_⟩
                  · rw [hs11, hw11]
                    exact (P10.step (fun _ _ => rfl) (fun z hz => ⟨by have := hz.1; omega, hz.2⟩) : RDP w10 (Bet (g + 1) w10.heap.size) x _).sc (Nat.le_refl _) (.inl (by omega)) _ _
                  · rw [hw11]
                    exact rangeAt_set cs fun j hj => by have := (T10 (k * 11 + j) (by omega)).1; rwa [Nat.zero_add] at this
              rw [← hw11]
              clear hw11 SC10 SZ10 AG10 BX10 T10 P10 BA B10
              go_wp2_with fail
              go_roundg (q.l.length - (i + 1))
              case measure => omega
              case rel => exact ⟨i + 1, by go_num, by omega, rfl, SC11, SZ11, AG11, BX11, T11, V11, I11, by omega⟩
            · obtain rfl : i = q.l.length := by omega
              have f10 := SC6.frozen 10
              have c10 := SC6.cell 10
              go_upto_region 14 with fail
              clear f10 c10
              obtain ⟨w12, hw12⟩ : ∃ w12, w12 = wr.setCell ⟨b, o + 10, none⟩ (.slice (some ⟨g, 0, none⟩) q.l.length q.l.length) := ⟨_, rfl⟩
              have hs12 : w12.heap.size = wr.heap.size := by rw [hw12]; simp [World.setCell]
              have SC12 : SO w12 b o [.int .i64 q.k, .int .i64 q.n, .bool q.re.s, .slice A12 q.re.a.length c12, .slice D12 q.re.b.length d12, .bool q.im.s, .slice A22 q.im.a.length c22, .slice D22 q.im.b.length d22, .string q.t, .slice R1 q.raw.length rc1, .slice (some ⟨g, 0, none⟩) q.l.length q.l.length] := by rw [hw12]; exact SC6.set 10 _
              have SZ12 : SB w12 (n + 1) [.int .i64 0, .int .i64 0, .bool false, .slice none 0 0, .slice none 0 0, .bool false, .slice none 0 0, .slice none 0 0, .string { data := #[] }, .slice none 0 0, .slice none 0 0] := by rw [hw12]; exact SZ6.far (p := ⟨b, o + 10, none⟩) hnz _
              have AG12 : Agr n wo w12 b o := by rw [hw12]; exact AG6.set 10 (by omega) _
              have BX12 : Below n w w12 := by rw [hw12]; exact BX6.setCell (p := ⟨b, o + 10, none⟩) (by show n ≤ b; omega) _
              have hbl : ∀ z, z ≠ b → w12.heap[z]? = wr.heap[z]? := fun z hz => by rw [hw12]; exact Below.heap_setCell wr ⟨b, o + 10, none⟩ _ z hz
              have vst : ∀ z, Bet wo.heap.size g z → w12.heap[z]? = w5.heap[z]? := fun z hz => (hbl z (by have := hz.1; omega)).trans (V6 z hz)
              have vow : ∀ z, Bet wo.heap.size g z → Own n w12 z := fun z hz => ⟨by have := hz.1; omega, by have := hz.2; omega⟩
              have R12 : RDP w12 (Own n w12) q (.agg #[.int .i64 q.k, .int .i64 q.n, .bool q.re.s, .slice A12 q.re.a.length c12, .slice D12 q.re.b.length d12, .bool q.im.s, .slice A22 q.im.a.length c22, .slice D22 q.im.b.length d22, .string q.t, .slice R1 q.raw.length rc1, .slice (some ⟨g, 0, none⟩) q.l.length q.l.length]) := RDP.mk_ (v1.step vst vow) (v2.step vst vow) (v3.step vst vow) (v4.step vst vow) (v5.step vst vow) hbd ⟨Nat.le_refl _, hlc.2⟩ (fun h0 => ⟨g, 0, rfl, ⟨by omega, by omega⟩, RDPs.of q.l 0 fun k x hk => by
                obtain ⟨cs', cl', h1, h2⟩ := I6 k x (List.getElem?_eq_some_iff.1 hk).1 hk
                refine ⟨cs', cl', h1.step (fun z hz => hbl z (by have := hz.1; omega)) (fun z hz => ⟨by have := hz.1; omega, by have := hz.2; omega⟩), fun j u hj => ?_⟩
                rw [Nat.zero_add]
                exact (cell_same (hbl g hgb) _).trans (h2 j u hj)⟩)
              rw [← hw12]
              clear hw12
              obtain ⟨cs0, l0, rg0, rd0⟩ := hole w12 _ AG12 rfl SC12.range R12
              have zo : ∀ u ∈ cs0, u.oneCell' = true := by
                obtain ⟨cs', e, _, h⟩ := rd0.agg
                have e2 := congrArg Array.toList (Value.agg.inj e)
                simp only at e2
                rw [e2]; exact h
              match cs0, l0, zo with
              | [z0, z1, z2, z3, z4, z5, z6, z7, z8, z9, z10], _, zo =>
              have kz : ∀ (j : Nat) (u : Value), [z0, z1, z2, z3, z4, z5, z6, z7, z8, z9, z10][j]? = some u → w12.cell? ⟨n + 1 + 1, j, none⟩ = some u := fun j u hj => by have := rg0 j u hj; rwa [Nat.zero_add] at this
              have k0 := kz 0 _ rfl; have k1 := kz 1 _ rfl; have k2 := kz 2 _ rfl; have k3 := kz 3 _ rfl; have k4 := kz 4 _ rfl; have k5 := kz 5 _ rfl; have k6 := kz 6 _ rfl; have k7 := kz 7 _ rfl; have k8 := kz 8 _ rfl; have k9 := kz 9 _ rfl; have k10 := kz 10 _ rfl
              go_wp2_with (refine wp_stD rfl rfl (.tmp 2) (.tmp 65) rfl (n + 1) rfl [z0, z1, z2, z3, z4, z5, z6, z7, z8, z9, z10] rfl rfl _ SZ12 rfl zo ?_)
              have S13 := SZ12.cells [z0, z1, z2, z3, z4, z5, z6, z7, z8, z9, z10] rfl
              clear k0 k1 k2 k3 k4 k5 k6 k7 k8 k9 k10
              have r0 := S13.cell 0; have r1 := S13.cell 1; have r2 := S13.cell 2; have r3 := S13.cell 3; have r4 := S13.cell 4; have r5 := S13.cell 5; have r6 := S13.cell 6; have r7 := S13.cell 7; have r8 := S13.cell 8; have r9 := S13.cell 9; have r10 := S13.cell 10
              refine bodyPost_ret (v := .agg #[z0, z1, z2, z3, z4, z5, z6, z7, z8, z9, z10]) (by simp [results, r0, r1, r2, r3, r4, r5, r6, r7, r8, r9, r10, go_sem]) rfl ?_
              rw [hn]
              exact ⟨_, rfl, rd0.step (fun z hz => World.heap_setCells_other w12 (n + 1) 0 [z0, z1, z2, z3, z4, z5, z6, z7, z8, z9, z10] hz.2 (by have := hz.1; omega)) (fun z hz => ⟨by have := hz.1; omega, by rw [size_sc]; exact hz.2⟩), below_cso BX12 (by omega) _ _⟩
theorem copy_any (vv : ByteArray → Bool) {d : Dat} (hd : d.sound vv = true) {v : Value} {w : World} (h : RD w w.heap.size d v) :
    Calls Tryd.prog 33 #[v] w fun e w' => ∃ v', e = .returned v' ∧ RD w' w'.heap.size d v' ∧ Below w.heap.size w w' :=
  (copy_go vv _ d (Nat.le_refl _) (Dat.sound_fit hd) v w h).mono fun _ _ ⟨v', e, hp, hb⟩ => ⟨v', e, hp.rd (fun _ hz => hz.2), hb⟩
end Go.Proofs.YtilhnjecnhpmlaaDoor
