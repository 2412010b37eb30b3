/- append as one step of a region that draws its order. Over any program. -/
import Derived.Test.YtmgblmdilepkpaaMemS
import Derived.Deep.RegionLaw
namespace Go.Proofs.Ytmgblmdilepkpaa
open Go.RowKit

/-- append(v, r...): behind a row of the call's own (nil too) -/
theorem step_app {P : Program} (w : World) {ops : Array Oper} {o : Oper} {a : Act} {K : Act → World → Prop} {Q : Exit → Act → World → Prop} {E : Prop}
    (T e : TypeId) {α : Type} (f : α → Value) (x0 : α) (by_ : Nat) (hu : P.underlying T = some (.slice e)) (hi : (P.info? e).map (fun i => (i.zero, i.size, i.bytes)) = some (some (f x0), 1, by_)) (h1 : ∀ x, (f x).cells = #[f x] ∧ (f x).oneCell' = true)
    (hg : o.guard = none) (s x : Operand) (hop : o.op = Op.call { callee := Callee.builtin Builtin.append, args := #[s, x], argTypes := #[T, T] })
    (base : Nat) (A : Option Addr) (c n : Nat) (l : List α) (hs : a.eval s = .slice A n c) (hn : n = l.length) (hown : OL e f w base A c l)
    (D : Option Addr) (d m : Nat) (r : List α) (hx : a.eval x = .slice D m d) (hm : m = r.length) (Br : Nat) (hr : RL f w Br D d r)
    (hlen : l.length + r.length ≤ 140737488351232) (hby : (l.length + r.length) * by_ ≤ 140737488355328) (hbase : base ≤ w.heap.size)
    (hK : ∀ A' c' w', OL e f w' base A' c' (l ++ r) → w.grownBy w' (Value.slice A n c).ownBlock → (∀ g, A' = some ⟨g, 0, none⟩ → g < w.heap.size → A = some ⟨g, 0, none⟩) →
      K (a.put o.dst (.slice A' (l ++ r).length c')) w') :
    if Region.wanted o (yielded ops a.tmps) = true then Oper.wp P o a w K Q else E := by
  obtain ⟨i, hi, h0, hi1, h2⟩ := info_parts hi
  subst hn hm
  have hw : Region.wanted o (yielded ops a.tmps) = true := by simp [Region.wanted, hg]
  rw [if_pos hw]
  have key : ∃ v' w', (Builtin.append_ #[T, T] o.type #[.slice A l.length c, .slice D r.length d]).run P w = .ok v' w' ∧ w'.ownsRow base e 1 v' (l.length + r.length) (l.map f ++ r.map f) ∧ w.grownBy w' (Value.slice A l.length c).ownBlock ∧ (v'.ownBlock = (Value.slice A l.length c).ownBlock ∨ v'.ownBlock = some w.heap.size) := by
    by_cases hr0 : r.length = 0
    · have hrn : r = [] := List.eq_nil_of_length_eq_zero hr0
      subst hrn
      exact ⟨_, w, run_append_nil' w hu hi hown.1 D d, by simpa using hown.1, World.grownBy.refl w _, .inl rfl⟩
    · obtain ⟨b, off, rfl, _, hc⟩ := hr.2.2 (by omega)
      obtain ⟨v', w', hrun, q1, q2, _, q4⟩ := run_append_own_at (P := P) w base T o.type e i (f x0) 1 by_ hu hi h0 hi1 h2 (by rw [(h1 x0).1]; rfl) (by omega) (.slice A l.length c) l.length (l.map f) hown.1 ⟨b, off, none⟩ r.length d (r.map f) (by simp)
        (by
          intro j u hj
          rw [List.getElem?_map] at hj
          obtain ⟨y, hy, rfl⟩ := Option.map_eq_some_iff.1 hj
          rw [Addr.add_lit]
          exact hc j y hy)
        (by
          intro u hu
          obtain ⟨y, _, rfl⟩ := List.mem_map.1 hu
          exact (h1 y).2)
        (by unfold maxLen; omega) hby hbase
      exact ⟨v', w', hrun, q1, q2, q4⟩
  obtain ⟨v', w', hrun, q1, q2, q4⟩ := key
  unfold Oper.wp execOp
  simp only [hop, resolve, invoke, builtin, Sem.run_bind, Sem.run_pure, Result.andThen_ok, List.map_toArray, List.map_cons, List.map_nil, hs, hx, hrun]
  have hlen2 : (l ++ r).length = l.length + r.length := List.length_append
  rcases q1.2 with ⟨rfl, hz⟩ | ⟨g, cap, cur, rfl, a1, a2, a3, a4, a5, a6⟩
  · have hO : OL e f w' base none 0 (l ++ r) := ⟨by rw [hlen2, List.map_append, hz]; rw [hz] at q1; exact q1, by omega⟩
    have := hK none 0 w' hO q2 (by intro g hg; cases hg)
    rw [hlen2, hz] at this
    exact this
  · have hO : OL e f w' base (some ⟨g, 0, none⟩) cap (l ++ r) := ⟨by rw [hlen2, List.map_append]; exact q1, by omega⟩
    have := hK (some ⟨g, 0, none⟩) cap w' hO q2 (by
      intro g' hg' hlt
      simp only [Option.some.injEq, Addr.mk.injEq, and_true] at hg'
      subst hg'
      rcases q4 with q | q
      · rcases hown.form with ⟨rfl, _⟩ | ⟨g2, rfl, _⟩
        · simp [Value.ownBlock] at q
        · simp [Value.ownBlock] at q; subst q; rfl
      · simp [Value.ownBlock] at q; omega)
    rw [hlen2] at this
    exact this
end Go.Proofs.Ytmgblmdilepkpaa
