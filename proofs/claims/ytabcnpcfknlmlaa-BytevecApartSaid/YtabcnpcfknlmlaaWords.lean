/- Slices of words (uint32): reading, owning, make, append, store. -/
import Derived.Test.YtabcnpcfknlmlaaProg
import Derived.Test.YtabcnpcfknlmlaaMem
namespace Go.Proofs.Ytabcnpcfknlmlaa
open Go.RowKit

/-- a word's cell -/
def fw (x : Nat) : Value := .int .u32 (x : Int)
def RW (w : World) (B : Nat) (A : Option Addr) (c : Nat) (l : List Nat) : Prop := RL fw w B A c l ∧ B32 l
def OW (w : World) (base : Nat) (A : Option Addr) (c : Nat) (l : List Nat) : Prop := OL 53 fw w base A c l ∧ B32 l

theorem infoW : (Try.prog.info? 53).map (fun i => (i.zero, i.size, i.bytes)) = some (some (fw 0), 1, 4) := by kernel_rfl

section
variable {w w' : World} {B B' base : Nat} {A : Option Addr} {c : Nat} {l : List Nat}
theorem RW.lc (h : RW w B A c l) : l.length ≤ c := h.1.lc
theorem RW.big (h : RW w B A c l) : l.length ≤ 35184372088832 := h.1.big
theorem RW.b32 (h : RW w B A c l) : B32 l := h.2
theorem RW.nil (w : World) (B : Nat) (A : Option Addr) (c : Nat) : RW w B A c [] := ⟨RL.nil .., B32_nil⟩
theorem RW.below (h : RW w B A c l) (hb : Below B w w') : RW w' B A c l := ⟨h.1.below hb, h.2⟩
theorem RW.more (h : RW w B A c l) (hB : B ≤ B') : RW w B' A c l := ⟨h.1.more hB, h.2⟩
theorem RW.step (h : RW w B A c l) (hb : Below B w w') (hB : B ≤ B') : RW w' B' A c l := ⟨h.1.step hb hB, h.2⟩
theorem RW.drewN (h : RW w B A c l) (k : Nat) : RW (w.drewN k) B A c l := h
theorem RW.take (h : RW w B A c l) (k : Nat) : RW w B A c (l.take k) := ⟨h.1.take k, B32_take h.2 k⟩
theorem RW.at_ (h : RW w B A c l) (hn : 0 < l.length) : ∃ b off, A = some ⟨b, off, none⟩ ∧ b < B ∧ ∀ k, k < l.length → w.cell? ⟨b, off + k, none⟩ = some (.int .u32 (wd l k)) := by
  obtain ⟨b, off, e, hb, hc⟩ := h.1.at_ hn
  exact ⟨b, off, e, hb, fun k hk => hc k _ (wd_get? hk)⟩
theorem OW.b32 (h : OW w base A c l) : B32 l := h.2
theorem OW.big (h : OW w base A c l) : l.length ≤ 35184372088832 := h.1.big
theorem OW.lc (h : OW w base A c l) : l.length ≤ c := h.1.lc
theorem OW.nil (w : World) (base : Nat) : OW w base none 0 [] := ⟨OL.nil .., B32_nil⟩
theorem OW.form (h : OW w base A c l) : (A = none ∧ c = 0 ∧ l = []) ∨ ∃ g, A = some ⟨g, 0, none⟩ ∧ base ≤ g ∧ g < w.heap.size ∧ l.length ≤ c := h.1.form
theorem OW.rw (h : OW w base A c l) : RW w w.heap.size A c l := ⟨h.1.rl, h.2⟩
theorem OW.base_le (h : OW w base A c l) (hb : B ≤ base) : OW w B A c l := ⟨h.1.base_le hb, h.2⟩
theorem OW.lt {g : Nat} (h : OW w base (some ⟨g, 0, none⟩) c l) : base ≤ g ∧ g < w.heap.size := h.1.lt
theorem OW.below (h : OW w base A c l) (hb : Below B w w') (hB : w.heap.size ≤ B) : OW w' base A c l := ⟨h.1.below hb hB, h.2⟩
theorem OW.grown {row : Option Nat} (h : OW w base A c l) (hg : w.grownBy w' row) (hne : ∀ g, A = some ⟨g, 0, none⟩ → row ≠ some g) : OW w' base A c l := ⟨h.1.grown hg hne, h.2⟩
theorem OW.alloc (h : OW w base A c l) (o : Obj) : OW (w.alloc o) base A c l := ⟨h.1.alloc o, h.2⟩
theorem OW.drewN (h : OW w base A c l) (k : Nat) : OW (w.drewN k) base A c l := h
theorem OW.take (h : OW w base A c l) (k : Nat) : OW w base A c (l.take k) := ⟨h.1.take k, B32_take h.2 k⟩
theorem OW.cell {g : Nat} (h : OW w base (some ⟨g, 0, none⟩) c l) {k : Nat} (hk : k < l.length) : w.cell? ⟨g, k, none⟩ = some (.int .u32 (wd l k)) := h.1.cell (wd_get? hk)
theorem OW.frozen {g : Nat} (h : OW w base (some ⟨g, 0, none⟩) c l) (k : Nat) : w.frozen? ⟨g, k, none⟩ = false := h.1.frozen k
theorem OW.set {g : Nat} (h : OW w base (some ⟨g, 0, none⟩) c l) (k : Nat) {x : Nat} (hx : x < 4294967296) :
    OW (w.setCell ⟨g, k, none⟩ (.int .u32 x)) base (some ⟨g, 0, none⟩) c (l.set k x) := ⟨h.1.set k x, B32_set h.2 k hx⟩
theorem OW.far (h : OW w base A c l) {p : Addr} (hp : ∀ g, A = some ⟨g, 0, none⟩ → g ≠ p.block) (u : Value) : OW (w.setCell p u) base A c l := ⟨h.1.far hp u, h.2⟩
/-- a trimmed list -/
theorem RW.norm (h : RW w B A c l) : RW w B A c (digs (val l)) := by rw [← trim_digs h.2]; exact h.take _
theorem OW.norm (h : OW w base A c l) : OW w base A c (digs (val l)) := by rw [← trim_digs h.2]; exact h.take _
end

theorem wp_makeW (w : World) {ops : Array Oper} {rest : List Oper} {o : Oper} {a : Act} {Q : Exit → Act → World → Prop}
    (hg : o.guard = none) (x c : Operand) (hop : o.op = Op.makeSlice 23 x c)
    (kl kc : IntKind) (L C : Int) (n : Nat) (hl : a.eval x = .int kl L) (hc : a.eval c = .int kc C) (hL : L = (n : Int)) (hC : C = (n : Int)) (hn : n ≤ 35184372088832)
    (hK : ∀ w', OW w' w.heap.size (some ⟨w.heap.size, 0, none⟩) n (List.replicate n 0) → Below w.heap.size w w' → w.heap.size + 1 ≤ w'.heap.size → wpList Try.prog ops Q rest (a.put o.dst (.slice (some ⟨w.heap.size, 0, none⟩) n n)) w') :
    wpList Try.prog ops Q (o :: rest) a w :=
  wp_make w 23 53 fw 0 4 Try.underlying23 infoW rfl hg x c hop kl kc L C n hl hc hL hC hn (by omega)
    fun w' h1 h2 h3 => hK w' ⟨h1, B32_replicate n⟩ ((Below.refl _ _).grown h2 (Nat.le_refl _) (by intro k hk; cases hk)) h3

theorem wp_appW (w : World) {ops : Array Oper} {rest : List Oper} {o : Oper} {a : Act} {Q : Exit → Act → World → Prop}
    (hg : o.guard = none) (s x : Operand) (hop : o.op = Op.call { callee := Callee.builtin Builtin.append, args := #[s, x], argTypes := #[23, 23] })
    (base : Nat) (A : Option Addr) (c n : Nat) (l : List Nat) (hs : a.eval s = .slice A n c) (hn : n = l.length) (hown : OW w base A c l)
    (D : Option Addr) (d m : Nat) (r : List Nat) (hx : a.eval x = .slice D m d) (hm : m = r.length) (Br : Nat) (hr : RW w Br D d r)
    (hlen : l.length + r.length ≤ 35184372088832) (hbase : base ≤ w.heap.size)
    (hK : ∀ A' c' w', OW w' base A' c' (l ++ r) → w.grownBy w' (Value.slice A n c).ownBlock → Below base w w' → wpList Try.prog ops Q rest (a.put o.dst (.slice A' (l ++ r).length c')) w') :
    wpList Try.prog ops Q (o :: rest) a w :=
  wp_app w 23 53 fw 0 4 Try.underlying23 infoW (fun _ => ⟨rfl, rfl⟩) hg s x hop base A c n l hs hn hown.1 D d m r hx hm Br hr.1 hlen (by omega) hbase
    fun A' c' w' h1 h2 _ => hK A' c' w' ⟨h1, B32_append hown.2 hr.2⟩ h2 ((Below.refl _ _).grown h2 hbase (by
      intro k hk
      rcases hown.form with ⟨rfl, _⟩ | ⟨g, rfl, hb, _⟩
      · simp [Value.ownBlock] at hk
      · simp [Value.ownBlock] at hk; omega))

/-- one word in a new block, as append's source -/
theorem RW.one (w : World) (t : TypeId) {x : Nat} (hx : x < 4294967296) : RW (w.alloc (.cells #[.int .u32 (x : Int)] t)) (w.heap.size + 1) (some ⟨w.heap.size, 0, none⟩) 1 [x] := by
  refine ⟨⟨by simp, by simp, fun _ => ⟨_, _, rfl, by omega, fun k y hk => ?_⟩⟩, B32_cons hx B32_nil⟩
  match k, hk with
  | 0, hk => simp at hk; subst hk; have := cell_one_new w (.int .u32 (x : Int)) t 0 _ rfl; rwa [Addr.add_lit] at this
theorem RW.two (w : World) (t : TypeId) {x y : Nat} (hx : x < 4294967296) (hy : y < 4294967296) : RW (w.alloc (.cells #[.int .u32 (x : Int), .int .u32 (y : Int)] t)) (w.heap.size + 1) (some ⟨w.heap.size, 0, none⟩) 2 [x, y] := by
  refine ⟨⟨by simp, by simp, fun _ => ⟨_, _, rfl, by omega, fun k z hk => ?_⟩⟩, B32_cons hx (B32_cons hy B32_nil)⟩
  have h0 := heap_alloc_new w (.cells #[.int .u32 (x : Int), .int .u32 (y : Int)] t)
  rw [cell_of_row _ _ _ _ _ _ h0, Nat.zero_add]
  match k, hk with
  | 0, hk => simp at hk; subst hk; rfl
  | 1, hk => simp at hk; subst hk; rfl
/-- a literal of words is the call's own -/
theorem OW.lit (w : World) (l : List Nat) (hl : l.length ≤ 1000) (hb : B32 l) : OW (w.alloc (.cells (l.map fw).toArray 53)) w.heap.size (some ⟨w.heap.size, 0, none⟩) l.length l := by
  refine ⟨⟨?_, by omega⟩, hb⟩
  have h := World.ownsRow_lit (e := 53) (size := 1) w (l.map fw).toArray l.length (Nat.le_refl _) (by unfold maxLen; omega) (by simp)
  simpa using h
theorem OW.empty (w : World) : OW (w.alloc (.cells #[] 53)) w.heap.size (some ⟨w.heap.size, 0, none⟩) 0 [] := OW.lit w [] (by simp) B32_nil
end Go.Proofs.Ytabcnpcfknlmlaa
