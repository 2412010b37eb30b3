/- A region that draws its order, whose last operation writes what the others read: what they read is held till that one comes up. -/
import Derived.Test.YtkjfpaommbjgbaaGF
import Derived.StillTail
namespace Go.Proofs.Ytkjfpaommbjgbaa
open Go.RowKit

section
variable {P : Program} {ops : Array Oper} {Q : Exit → Act → World → Prop} {md : Region.Mode} {S : World → Prop} {n : Nat}
/-- in whatever order; S holds behind every operation but number n -/
def AnyU (P : Program) (md : Region.Mode) (ops : Array Oper) (Q : Exit → Act → World → Prop) (S : World → Prop) (n : Nat) : Nat → Array Bool → Act → World → Prop
  | 0 => fun l a w => Region.ready md ops l = [] ∧ Q .normal a w
  | f + 1 => fun l a w => (Region.ready md ops l = [] → Q .normal a w) ∧
      ∀ i ∈ Region.ready md ops l, wpOp P ops Q i (fun a' w' => (i = n ∨ S w') ∧ AnyU P md ops Q S n f (l.setIfInBounds i true) a' w') a w
theorem AnyU.any (f : Nat) : ∀ (l : Array Bool) (a : Act) (w : World), AnyU P md ops Q S n f l a w → wpAny P md ops Q f l a w := by
  induction f with
  | zero => exact fun l a w h => h
  | succ f ih => exact fun l a w h => ⟨h.1, fun i hi => wpOp_mono (fun a' w' g => ih _ a' w' g.2) (h.2 i hi)⟩
/-- who comes up ahead of i leaves i alone -/
def Alone (md : Region.Mode) (ops : Array Oper) (l : Array Bool) (i : Nat) (oi : Oper) : Prop :=
  ∀ j oj, ops[j]? = some oj → j ≠ i → l.getD j true = false → (∀ e ∈ oj.after, Region.binds md e = true → e.on ≠ i) → oi.apart ops oj = true
theorem Alone.set {l : Array Bool} {i j : Nat} {oi : Oper} (h : Alone md ops l i oi) (hj : l.getD j true = false) : Alone md ops (l.setIfInBounds j true) i oi := by
  intro k ok hk hki hu hno
  refine h k ok hk hki ?_ hno
  by_cases e : j = k
  · rw [← e]; exact hj
  · rwa [getD_set_ne true e] at hu
theorem unlisted {l : Array Bool} {i : Nat} (h : l.getD i true = false) : l.getD i false = false := by
  cases hx : l[i]? with
  | none => simp [Array.getD_eq_getD_getElem?, hx]
  | some b => simp [Array.getD_eq_getD_getElem?, hx] at h ⊢; exact h
theorem AnyU.take_aux {i : Nat} {oi : Oper} {v : Value} (hi : ops[i]? = some oi) (hsel : ∀ (j : Nat) (o : Oper) cs b, ops[j]? = some o → o.op ≠ .select cs b)
    (hQ : ∀ c a w, Q (.panic c) (a.put oi.dst v) w → Q (.panic c) a w) (hn : Region.waitsFor md ops n i = true) (f : Nat) :
    ∀ (l : Array Bool) (a : Act) (w : World), Alone md ops l i oi → i ∈ Region.ready md ops l → YieldsIf P ops S oi v a → S w →
      AnyU P md ops Q S n f (l.setIfInBounds i true) (a.put oi.dst v) w → AnyU P md ops Q S n (f + 1) l a w := by
  have last : ∀ l : Array Bool, i ∈ Region.ready md ops l → n ∉ Region.ready md ops l := by
    intro l h1 h2
    obtain ⟨on, hon, e, he, hb, heq⟩ := Region.waitsFor_spec hn
    obtain ⟨_, o2, ho2, hall⟩ := mem_ready.1 h2
    obtain rfl : o2 = on := Option.some.inj (ho2.symm.trans hon)
    have h3 := hall e he hb
    rw [heq, unlisted (mem_ready.1 h1).1] at h3
    cases h3
  induction f with
  | zero =>
    intro l a w _ hr hy hS H
    refine ⟨fun h => (by rw [h] at hr; cases hr), fun j hj => ?_⟩
    by_cases e : j = i
    · subst e
      exact hy.wpOp hi hS ⟨.inr hS, H⟩
    · have hj2 := ready_mono hj e
      rw [H.1] at hj2
      cases hj2
  | succ f ih =>
    intro l a w hA hr hy hS H
    refine ⟨fun h => (by rw [h] at hr; cases hr), fun j hj => ?_⟩
    by_cases e : j = i
    · subst e
      exact hy.wpOp hi hS ⟨.inr hS, H⟩
    obtain ⟨hju, oj, hoj, hall⟩ := mem_ready.1 hj
    have hno : ∀ e ∈ oj.after, Region.binds md e = true → e.on ≠ i := by
      intro e he hb heq
      have h3 := hall e he hb
      rw [heq, unlisted (mem_ready.1 hr).1] at h3
      cases h3
    have hjn : j ≠ n := fun h => last l hr (h ▸ hj)
    have step := wpOp_putIf hoj (hA j oj hoj e hju hno) (fun cs b => hsel i oi cs b hi) (fun cs b => hsel j oj cs b hoj) hQ hy (H.2 j (ready_mono hj e))
    refine wpOp_mono (fun a' w' g => ?_) step
    have hS' : S w' := g.2.1.resolve_left hjn
    refine ⟨.inr hS', ih _ a' w' (hA.set hju) (ready_mono hr (Ne.symm e)) g.1 hS' ?_⟩
    rw [Array.setIfInBounds_comm _ _ e]
    exact g.2.2
theorem AnyU.take {i : Nat} {oi : Oper} {v : Value} {f : Nat} {l : Array Bool} {a : Act} {w : World} (hi : ops[i]? = some oi) (hs : Region.noSelect ops = true) (hf : Region.free md ops l i = true) (hr : (Region.ready md ops l).contains i = true)
    (hn : Region.waitsFor md ops n i = true) (hQ : ∀ c a w, Q (.panic c) (a.put oi.dst v) w → Q (.panic c) a w) (hy : YieldsIf P ops S oi v a) (hS : S w)
    (h : AnyU P md ops Q S n f (l.setIfInBounds i true) (a.put oi.dst v) w) : AnyU P md ops Q S n (f + 1) l a w :=
  AnyU.take_aux hi (Region.noSelect_spec hs) hQ hn f l a w (fun j oj h1 h2 h3 h4 => Region.free_spec hi hf j oj h1 h2 h3 h4) (by simpa using hr) hy hS h
/-- one operation alone may come up -/
theorem AnyU.one (i : Nat) {o : Oper} {f : Nat} {l : Array Bool} {a : Act} {w : World} (hr : Region.ready md ops l = [i]) (ho : ops[i]? = some o)
    (h : ∀ K : Act → World → Prop, Shut (∀ a w, (i = n ∨ S w) → ((i = n ∨ S w) → AnyU P md ops Q S n f (l.setIfInBounds i true) a w) → K a w) → if Region.wanted o (yielded ops a.tmps) = true then Oper.wp P o a w K Q else K (a.put o.dst undef) w) :
    AnyU P md ops Q S n (f + 1) l a w := by
  refine ⟨fun h0 => (by rw [h0] at hr; cases hr), fun j hj => ?_⟩
  rw [hr] at hj
  obtain rfl := List.mem_singleton.1 hj
  exact wpOp_step ho (fun K hK => h K (fun a w hS hW => hK a w ⟨hS, hW hS⟩))
theorem AnyU.region {id : Nat} {a : Act} {w : World} (n : Nat) (S : World → Prop) (hm : P.follows .mixedOrders = true) (hS : S w.drew) (h : S w.drew → AnyU P .any ops Q S n ops.size (Array.replicate ops.size false) a w.drew) : (Code.region id ops true).wp P Q a w :=
  wp_region_any hm (AnyU.any _ _ _ _ (h hS))
/-- what is said of a panic does not hang on the slots -/
def QuietP (Q : Exit → Act → World → Prop) : Prop := ∀ c a a' w, a'.defers = a.defers → Q (.panic c) a' w → Q (.panic c) a w
theorem quiet_then {K : Act → World → Prop} (h : QuietP Q) : QuietP (Exit.then K Q) := fun c a a' w e g => h c a a' w e g
theorem quiet_block {id : Nat} (h : QuietP Q) : QuietP (Exit.inBlock id Q) := fun c a a' w e g => h c a a' w e g
theorem quiet_body {fn : Func} {R : Ending → World → Prop} : QuietP (bodyPost P fn R) := fun _ _ _ _ e g => ⟨e ▸ g.1, g.2⟩
theorem put_defers (a : Act) (d : Option Tmp) (v : Value) : (a.put d v).defers = a.defers := by cases d <;> rfl
theorem AnyU.next {i : Nat} {oi : Oper} {d : Tmp} {v : Value} {f : Nat} {l : Array Bool} {ts : Array Value} {ds : List Deferred} {w : World} (hq : QuietP Q) (hs : Region.noSelect ops = true) (hS : S w) (hi : ops[i]? = some oi) (hd : oi.dst = some d)
    (hk : (Region.free md ops l i && ((Region.ready md ops l).contains i && Region.waitsFor md ops n i)) = true) (hy : YieldsIf P ops S oi v ⟨ts, ds⟩)
    (h : AnyU P md ops Q S n f (l.setIfInBounds i true) ⟨ts.setIfInBounds d v, ds⟩ w) : AnyU P md ops Q S n (f + 1) l ⟨ts, ds⟩ w := by
  simp only [Bool.and_eq_true] at hk
  refine AnyU.take hi hs hk.1 hk.2.1 hk.2.2 (fun c a w h => hq c a _ w (put_defers _ _ _) h) hy hS ?_
  rw [hd]
  exact h
theorem AnyU.regionQ {id : Nat} {a : Act} {w : World} (n N : Nat) (S : World → Prop) (hN : ops.size = N) (hm : P.follows .mixedOrders = true) (hs : Region.noSelect ops = true) (hq : QuietP Q) (hS : S w.drew)
    (h : ∀ Q' : Exit → Act → World → Prop, Shut (∀ a w, Q .normal a w → Q' .normal a w) → QuietP Q' → Region.noSelect ops = true → S w.drew → AnyU P .any ops Q' S n N (Array.replicate N false) a w.drew) : (Code.region id ops true).wp P Q a w :=
  have h0 : ∀ a w, Q .normal a w → Q .normal a w := fun _ _ h => h
  by subst hN; exact wp_region_any hm (AnyU.any _ _ _ _ (h Q h0 hq hs hS))
theorem AnyU.done {f : Nat} {l : Array Bool} {a : Act} {w : World} (hr : Region.ready md ops l = []) (h : Q .normal a w) : AnyU P md ops Q S n f l a w := by
  cases f with
  | zero => exact ⟨hr, h⟩
  | succ f => exact ⟨fun _ => h, fun i hi => by rw [hr] at hi; cases hi⟩
end
theorem S2.far3 {w w1 : World} {b g n : Nat} {l1 : List Value} (h : S2 w b l1 n w1) (hg : b + 1 < g) (x y z : Value) : S2 w b l1 n (wr3 w1 g x y z) :=
  ⟨h.1.wr3 (by omega) x y z, (h.2.1.sb.wr3 (by omega) x y z).rc (by simp), wr3_below h.2.2 (by omega) x y z⟩
theorem OW.far3 {w : World} {base g : Nat} {A : Option Addr} {c : Nat} {l : List Nat} (h : OW w base A c l) (hn : ∀ b, A = some ⟨b, 0, none⟩ → b ≠ g) (x y z : Value) : OW (wr3 w g x y z) base A c l :=
  ((h.far (p := ⟨g, 0, none⟩) hn x).far (p := ⟨g, 1, none⟩) hn y).far (p := ⟨g, 2, none⟩) hn z
theorem SB.put36 {w : World} {g : Nat} {a b c d e f : Value} (h : SB w g [a, b, c, d, e, f]) (x y z : Value) : SB (Go.Proofs.Ytkjfpaommbjgbaa.wr3 w g x y z) g [x, y, z, d, e, f] := ((h.set 0 x).set 1 y).set 2 z
end Go.Proofs.Ytkjfpaommbjgbaa
