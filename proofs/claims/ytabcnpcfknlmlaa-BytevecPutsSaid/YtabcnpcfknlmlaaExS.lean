/- Walks: the reference's Times. -/
import Derived.Test.YtabcnpcfknlmlaaGI
import Derived.Test.YtabcnpcfknlmlaaGE
namespace Go.Proofs.Ytabcnpcfknlmlaa
open Go.RowKit

theorem RQ.parts {w : World} {B : Nat} {s : Bool} {A : Option Addr} {n c : Nat} {D : Option Addr} {m d : Nat} {q : Rat} (h : RQ w B (.agg #[.bool s, .slice A n c, .slice D m d]) q) : RW w B A c (digs (qt q)) ∧ RW w B D d (digs (qd q)) := by
  obtain ⟨A', c', D', d', e, h1, h2⟩ := h
  simp only [Value.agg.injEq, Array.mk.injEq, List.cons.injEq, Value.slice.injEq, and_true] at e
  obtain ⟨_, ⟨rfl, _, rfl⟩, rfl, _, rfl⟩ := e
  exact ⟨h1, h2⟩
theorem RQ.neg {w : World} {B : Nat} {s : Bool} {A : Option Addr} {n c : Nat} {D : Option Addr} {m d : Nat} {q : Rat} (h : RQ w B (.agg #[.bool s, .slice A n c, .slice D m d]) q) :
    RQ w B (.agg #[.bool (qn (-q)), .slice A (digs (qt (-q))).length c, .slice D (digs (qd (-q))).length d]) (-q) := by
  obtain ⟨h1, h2⟩ := h.parts
  exact ⟨A, c, D, d, rfl, by rw [q_neg_t]; exact h1, by rw [q_neg_d]; exact h2⟩
theorem S3.wr3 {w w1 : World} {b n g : Nat} {l1 l2 : List Value} (h : S3 w b l1 l2 n w1) (hg : b + 2 < g) (x y z : Value) : S3 w b l1 l2 n (Go.Proofs.Ytabcnpcfknlmlaa.wr3 w1 g x y z) :=
  ⟨h.1.wr3 (by omega) x y z, h.2.1.wr3 (by omega) x y z, (h.2.2.1.sb.wr3 (by omega) x y z).rc (by simp), wr3_below h.2.2.2 (by omega) x y z⟩
/-- what the second region keeps: besides, the first fraction -/
def P3 (w wc : World) (b : Nat) (l1 l2 : List Value) (n g : Nat) (l3 : List Value) (w' : World) : Prop := S3 w b l1 l2 n w' ∧ SB w' g l3 ∧ Below wc.heap.size wc w'
section
variable {w wc w1 w2 : World} {b n g g2 : Nat} {l1 l2 l3 : List Value}
theorem P3.nx (h : P3 w wc b l1 l2 n g l3 w1) (hb : Below w1.heap.size w1 w2) : P3 w wc b l1 l2 n g l3 w2 := ⟨h.1.nx hb, h.2.1.nx hb, bt h.2.2 hb⟩
theorem P3.dr (h : P3 w wc b l1 l2 n g l3 w1) : P3 w wc b l1 l2 n g l3 w1.drew := h.nx (Below.drew (Below.refl _ _))
theorem P3.wr3 (h : P3 w wc b l1 l2 n g l3 w1) (hg : b + 2 < g2 ∧ g < g2 ∧ wc.heap.size ≤ g2) (x y z : Value) : P3 w wc b l1 l2 n g l3 (Go.Proofs.Ytabcnpcfknlmlaa.wr3 w1 g2 x y z) :=
  ⟨h.1.wr3 hg.1 x y z, h.2.1.wr3 (by omega) x y z, wr3_below h.2.2 hg.2.2 x y z⟩
theorem sbre {o o' : Obj} {k : Nat} {vs : List Value} (hk : k < w1.heap.size) (h : SB (w1.alloc o) k vs) : SB (w1.alloc o') k vs :=
  ⟨fun i v hv => ⟨((((bal w1 o').cell (p := ⟨k, i, none⟩) hk).trans ((bal w1 o).cell (p := ⟨k, i, none⟩) hk).symm)).trans (h.1 i v hv).1, ((((bal w1 o').frozen (p := ⟨k, i, none⟩) hk).trans ((bal w1 o).frozen (p := ⟨k, i, none⟩) hk).symm)).trans (h.1 i v hv).2⟩, by simp; omega⟩
theorem P3.re {o o' : Obj} (h : P3 w wc b l1 l2 n g l3 (w1.alloc o)) (hg : b + 2 < w1.heap.size ∧ g < w1.heap.size ∧ wc.heap.size ≤ w1.heap.size) : P3 w wc b l1 l2 n g l3 (w1.alloc o') := by
  refine ⟨h.1.re hg.1, sbre hg.2.1 h.2.1, ?_⟩
  have h3 := h.2.2
  have e : ∀ (q : Obj) (k : Nat), k < w1.heap.size → (w1.alloc q).heap[k]? = w1.heap[k]? := fun q k hk => (bal w1 q).block k hk
  exact ⟨h3.os, h3.tape, h3.output, by have := h3.size; simpa using this, fun k hk => by
    rw [e o' k (by omega), ← e o k (by omega)]; exact h3.block k hk⟩
theorem gtp {l : List Value} (_ : SB w g2 l) (h : b + 2 < g2 ∧ g < g2 ∧ n ≤ g2) : b + 2 < g2 ∧ g < g2 ∧ n ≤ g2 := h
end


end Go.Proofs.Ytabcnpcfknlmlaa
