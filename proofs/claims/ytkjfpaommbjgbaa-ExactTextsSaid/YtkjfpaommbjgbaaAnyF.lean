/- A region that draws its order, some of whose operations (late ones, told by a test) write what the others read: what they read is held till one of those has come up. -/
import Derived.Test.YtkjfpaommbjgbaaAnyE
namespace Go.Proofs.Ytkjfpaommbjgbaa
open Go.RowKit

/-- a late operation has come up -/
def Gone (n : Nat → Bool) (l : Array Bool) : Prop := ∃ j, n j = true ∧ l.getD j false = true
theorem Gone.set {n : Nat → Bool} {l : Array Bool} (h : Gone n l) (i : Nat) : Gone n (l.setIfInBounds i true) := by
  obtain ⟨j, h1, h2⟩ := h
  exact ⟨j, h1, getD_set_true h2⟩
theorem Gone.unset {n : Nat → Bool} {l : Array Bool} {i : Nat} (hi : n i = false) (h : Gone n (l.setIfInBounds i true)) : Gone n l := by
  obtain ⟨j, h1, h2⟩ := h
  refine ⟨j, h1, ?_⟩
  by_cases e : i = j
  · rw [e, h1] at hi; cases hi
  · rwa [getD_set_ne false e] at h2
def notGone (n : Nat → Bool) (l : Array Bool) : Bool := (List.range l.size).all fun j => !(n j && l.getD j false)
theorem notGone.spec {n : Nat → Bool} {l : Array Bool} (h : notGone n l = true) : ¬ Gone n l := by
  rintro ⟨j, h1, h2⟩
  have hj : j < l.size := by
    rcases Nat.lt_or_ge j l.size with h3 | h3
    · exact h3
    · simp [Array.getD_eq_getD_getElem?, Array.getElem?_eq_none h3] at h2
  have := List.all_eq_true.1 h j (List.mem_range.2 hj)
  rw [h1, h2] at this
  cases this
section
variable {P : Program} {ops : Array Oper} {Q : Exit → Act → World → Prop} {md : Region.Mode} {S : World → Prop} {n : Nat → Bool}
/-- in whatever order; S holds till a late operation has come up -/
def AnyW (P : Program) (md : Region.Mode) (ops : Array Oper) (Q : Exit → Act → World → Prop) (S : World → Prop) (n : Nat → Bool) : Nat → Array Bool → Act → World → Prop
  | 0 => fun l a w => Region.ready md ops l = [] ∧ Q .normal a w
  | f + 1 => fun l a w => (Region.ready md ops l = [] → Q .normal a w) ∧
      ∀ i ∈ Region.ready md ops l, wpOp P ops Q i (fun a' w' => (Gone n (l.setIfInBounds i true) ∨ S w') ∧ AnyW P md ops Q S n f (l.setIfInBounds i true) a' w') a w
theorem AnyW.any (f : Nat) : ∀ (l : Array Bool) (a : Act) (w : World), AnyW P md ops Q S n f l a w → wpAny P md ops Q f l a w := by
  induction f with
  | zero => exact fun l a w h => h
  | succ f ih => exact fun l a w h => ⟨h.1, fun i hi => wpOp_mono (fun a' w' g => ih _ a' w' g.2) (h.2 i hi)⟩
/-- all late ones wait for i -/
def lateW (md : Region.Mode) (ops : Array Oper) (n : Nat → Bool) (i : Nat) : Bool := (List.range ops.size).all fun j => !n j || Region.waitsFor md ops j i
theorem AnyW.take_aux {i : Nat} {oi : Oper} {v : Value} (hi : ops[i]? = some oi) (hsel : ∀ (j : Nat) (o : Oper) cs b, ops[j]? = some o → o.op ≠ .select cs b)
    (hQ : ∀ c a w, Q (.panic c) (a.put oi.dst v) w → Q (.panic c) a w) (hn : lateW md ops n i = true) (hni : n i = false) (f : Nat) :
    ∀ (l : Array Bool) (a : Act) (w : World), Alone md ops l i oi → i ∈ Region.ready md ops l → ¬ Gone n l → YieldsIf P ops S oi v a → S w →
      AnyW P md ops Q S n f (l.setIfInBounds i true) (a.put oi.dst v) w → AnyW P md ops Q S n (f + 1) l a w := by
  have last : ∀ (l : Array Bool) (j : Nat), i ∈ Region.ready md ops l → n j = true → j ∉ Region.ready md ops l := by
    intro l j h1 hnj h2
    obtain ⟨_, o2, ho2, hall⟩ := mem_ready.1 h2
    have hjs : j < ops.size := (Array.getElem?_eq_some_iff.1 ho2).1
    have hw : Region.waitsFor md ops j i = true := by
      have := List.all_eq_true.1 hn j (List.mem_range.2 hjs)
      rw [Bool.or_eq_true] at this
      exact this.resolve_left (by rw [hnj]; decide)
    obtain ⟨on, hon, e, he, hb, heq⟩ := Region.waitsFor_spec hw
    obtain rfl : o2 = on := Option.some.inj (ho2.symm.trans hon)
    have h3 := hall e he hb
    rw [heq, unlisted (mem_ready.1 h1).1] at h3
    cases h3
  induction f with
  | zero =>
    intro l a w _ hr _ hy hS H
    refine ⟨fun h => (by rw [h] at hr; cases hr), fun j hj => ?_⟩
    by_cases e : j = i
    · subst e
      exact hy.wpOp hi hS ⟨.inr hS, H⟩
    · have hj2 := ready_mono hj e
      rw [H.1] at hj2
      cases hj2
  | succ f ih =>
    intro l a w hA hr hG hy hS H
    refine ⟨fun h => (by rw [h] at hr; cases hr), fun j hj => ?_⟩
    by_cases e : j = i
    · subst e
      exact hy.wpOp hi hS ⟨.inr hS, H⟩
    obtain ⟨hju, oj, hoj, hall⟩ := mem_ready.1 hj
    have hno : ∀ e ∈ oj.after, Region.binds md e = true → e.on ≠ i := by
      intro e he hb heq
      have h3 := hall e he hb
      rw [heq, unlisted (mem_ready.1 hr).1] at h3
      cases h3
    have hjn : n j = false := by
      cases h : n j with
      | false => rfl
      | true => exact absurd hj (last l j hr h)
    have hGj : ¬ Gone n (l.setIfInBounds j true) := fun h => hG (h.unset hjn)
    have step := wpOp_putIf hoj (hA j oj hoj e hju hno) (fun cs b => hsel i oi cs b hi) (fun cs b => hsel j oj cs b hoj) hQ hy (H.2 j (ready_mono hj e))
    refine wpOp_mono (fun a' w' g => ?_) step
    have hS' : S w' := g.2.1.resolve_left (fun h => hG (Gone.unset hni (h.unset hjn)))
    refine ⟨.inr hS', ih _ a' w' (hA.set hju) (ready_mono hr (Ne.symm e)) hGj g.1 hS' ?_⟩
    rw [Array.setIfInBounds_comm _ _ e]
    exact g.2.2
/-- one that reads no memory -/
theorem AnyW.take_free {i : Nat} {oi : Oper} {v : Value} (hi : ops[i]? = some oi) (hsel : ∀ (j : Nat) (o : Oper) cs b, ops[j]? = some o → o.op ≠ .select cs b)
    (hQ : ∀ c a w, Q (.panic c) (a.put oi.dst v) w → Q (.panic c) a w) (hni : n i = false) (f : Nat) :
    ∀ (l : Array Bool) (a : Act) (w : World), Alone md ops l i oi → i ∈ Region.ready md ops l → YieldsIf P ops (fun _ => True) oi v a → (Gone n l ∨ S w) →
      AnyW P md ops Q S n f (l.setIfInBounds i true) (a.put oi.dst v) w → AnyW P md ops Q S n (f + 1) l a w := by
  induction f with
  | zero =>
    intro l a w _ hr hy hS H
    refine ⟨fun h => (by rw [h] at hr; cases hr), fun j hj => ?_⟩
    by_cases e : j = i
    · subst e
      exact hy.wpOp hi trivial ⟨hS.imp (fun h => h.set j) id, H⟩
    · have hj2 := ready_mono hj e
      rw [H.1] at hj2
      cases hj2
  | succ f ih =>
    intro l a w hA hr hy hS H
    refine ⟨fun h => (by rw [h] at hr; cases hr), fun j hj => ?_⟩
    by_cases e : j = i
    · subst e
      exact hy.wpOp hi trivial ⟨hS.imp (fun h => h.set j) id, H⟩
    obtain ⟨hju, oj, hoj, hall⟩ := mem_ready.1 hj
    have hno : ∀ e ∈ oj.after, Region.binds md e = true → e.on ≠ i := by
      intro e he hb heq
      have h3 := hall e he hb
      rw [heq, unlisted (mem_ready.1 hr).1] at h3
      cases h3
    have step := wpOp_putIf hoj (hA j oj hoj e hju hno) (fun cs b => hsel i oi cs b hi) (fun cs b => hsel j oj cs b hoj) hQ hy (H.2 j (ready_mono hj e))
    refine wpOp_mono (fun a' w' g => ?_) step
    have hS' : Gone n (l.setIfInBounds j true) ∨ S w' := g.2.1.imp (fun h => by
      rw [Array.setIfInBounds_comm _ _ (Ne.symm e)] at h
      exact h.unset hni) id
    refine ⟨hS', ih _ a' w' (hA.set hju) (ready_mono hr (Ne.symm e)) g.1 hS' ?_⟩
    rw [Array.setIfInBounds_comm _ _ e]
    exact g.2.2
/-- one operation alone may come up -/
theorem AnyW.one (i : Nat) {o : Oper} {f : Nat} {l : Array Bool} {a : Act} {w : World} (hr : Region.ready md ops l = [i]) (ho : ops[i]? = some o)
    (h : ∀ K : Act → World → Prop, Shut (∀ a w, (Gone n (l.setIfInBounds i true) ∨ S w) → ((Gone n (l.setIfInBounds i true) ∨ S w) → AnyW P md ops Q S n f (l.setIfInBounds i true) a w) → K a w) → if Region.wanted o (yielded ops a.tmps) = true then Oper.wp P o a w K Q else K (a.put o.dst undef) w) :
    AnyW P md ops Q S n (f + 1) l a w := by
  refine ⟨fun h0 => (by rw [h0] at hr; cases hr), fun j hj => ?_⟩
  rw [hr] at hj
  obtain rfl := List.mem_singleton.1 hj
  exact wpOp_step ho (fun K hK => h K (fun a w hS hW => hK a w ⟨hS, hW hS⟩))
theorem AnyW.next {i : Nat} {oi : Oper} {d : Tmp} {v : Value} {f : Nat} {l : Array Bool} {ts : Array Value} {ds : List Deferred} {w : World} (hq : QuietP Q) (hs : Region.noSelect ops = true) (hS : S w) (hi : ops[i]? = some oi) (hd : oi.dst = some d)
    (hk : (Region.free md ops l i && ((Region.ready md ops l).contains i && (lateW md ops n i && (!n i && notGone n l)))) = true) (hy : YieldsIf P ops S oi v ⟨ts, ds⟩)
    (h : AnyW P md ops Q S n f (l.setIfInBounds i true) ⟨ts.setIfInBounds d v, ds⟩ w) : AnyW P md ops Q S n (f + 1) l ⟨ts, ds⟩ w := by
  simp only [Bool.and_eq_true, Bool.not_eq_true'] at hk
  refine AnyW.take_aux hi (Region.noSelect_spec hs) (fun c a w h => hq c a _ w (put_defers _ _ _) h) hk.2.2.1 hk.2.2.2.1 f l _ w (fun j oj h1 h2 h3 h4 => Region.free_spec hi hk.1 j oj h1 h2 h3 h4) (by simpa using hk.2.1) (notGone.spec hk.2.2.2.2) hy hS ?_
  rw [hd]
  exact h
theorem AnyW.nextT {i : Nat} {oi : Oper} {d : Tmp} {v : Value} {f : Nat} {l : Array Bool} {ts : Array Value} {ds : List Deferred} {w : World} (hq : QuietP Q) (hs : Region.noSelect ops = true) (hS : Gone n l ∨ S w) (hi : ops[i]? = some oi) (hd : oi.dst = some d)
    (hk : (Region.free md ops l i && ((Region.ready md ops l).contains i && !n i)) = true) (hy : YieldsIf P ops (fun _ => True) oi v ⟨ts, ds⟩)
    (h : AnyW P md ops Q S n f (l.setIfInBounds i true) ⟨ts.setIfInBounds d v, ds⟩ w) : AnyW P md ops Q S n (f + 1) l ⟨ts, ds⟩ w := by
  simp only [Bool.and_eq_true, Bool.not_eq_true'] at hk
  refine AnyW.take_free hi (Region.noSelect_spec hs) (fun c a w h => hq c a _ w (put_defers _ _ _) h) hk.2.2 f l _ w (fun j oj h1 h2 h3 h4 => Region.free_spec hi hk.1 j oj h1 h2 h3 h4) (by simpa using hk.2.1) hy hS ?_
  rw [hd]
  exact h
theorem AnyW.regionQ {id : Nat} {a : Act} {w : World} (n : Nat → Bool) (N : Nat) (S : World → Prop) (hN : ops.size = N) (hm : P.follows .mixedOrders = true) (hs : Region.noSelect ops = true) (hq : QuietP Q) (hS : S w.drew)
    (h : ∀ Q' : Exit → Act → World → Prop, Shut (∀ a w, Q .normal a w → Q' .normal a w) → QuietP Q' → Region.noSelect ops = true → S w.drew → AnyW P .any ops Q' S n N (Array.replicate N false) a w.drew) : (Code.region id ops true).wp P Q a w :=
  have h0 : ∀ a w, Q .normal a w → Q .normal a w := fun _ _ h => h
  by subst hN; exact wp_region_any hm (AnyW.any _ _ _ _ (h Q h0 hq hs hS))
theorem AnyW.done {f : Nat} {l : Array Bool} {a : Act} {w : World} (hr : Region.ready md ops l = []) (h : Q .normal a w) : AnyW P md ops Q S n f l a w := by
  cases f with
  | zero => exact ⟨hr, h⟩
  | succ f => exact ⟨fun _ => h, fun i hi => by rw [hr] at hi; cases hi⟩
def USomeW (P : Program) (md : Region.Mode) (ops : Array Oper) (Q : Exit → Act → World → Prop) (S : World → Prop) (n : Nat → Bool) (f : Nat) (l : Array Bool) (a : Act) (w : World) (i : Nat) : Prop :=
  wpOp P ops Q i (fun a' w' => (Gone n (l.setIfInBounds i true) ∨ S w') ∧ AnyW P md ops Q S n f (l.setIfInBounds i true) a' w') a w
theorem USomeW.mk {f : Nat} {l : Array Bool} {a : Act} {w : World} {i : Nat} {o : Oper} (ho : ops[i]? = some o)
    (h : ∀ K : Act → World → Prop, Shut (∀ a w, (Gone n (l.setIfInBounds i true) ∨ S w) → ((Gone n (l.setIfInBounds i true) ∨ S w) → AnyW P md ops Q S n f (l.setIfInBounds i true) a w) → K a w) → if Region.wanted o (yielded ops a.tmps) = true then Oper.wp P o a w K Q else K (a.put o.dst undef) w) : USomeW P md ops Q S n f l a w i :=
  wpOp_step ho (fun K hK => h K (fun a w hS hW => hK a w ⟨hS, hW hS⟩))
theorem AnyW.two {f : Nat} {l : Array Bool} {a : Act} {w : World} {i j : Nat} (hr : Region.ready md ops l = [i, j]) (h1 : USomeW P md ops Q S n f l a w i) (h2 : USomeW P md ops Q S n f l a w j) : AnyW P md ops Q S n (f + 1) l a w :=
  ⟨fun h0 => (by rw [h0] at hr; cases hr), fun k hk => by
    rw [hr] at hk
    simp only [List.mem_cons, List.not_mem_nil, or_false] at hk
    rcases hk with rfl | rfl
    · exact h1
    · exact h2⟩
end
end Go.Proofs.Ytkjfpaommbjgbaa
