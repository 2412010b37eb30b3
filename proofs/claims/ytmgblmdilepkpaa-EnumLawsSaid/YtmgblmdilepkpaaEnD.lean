/- slices.Clone of strings; make1. -/
import Derived.Test.YtmgblmdilepkpaaEnC
import Derived.Test.YtmgblmdilepkpaaEnM
import Derived.WalkSpells
import Derived.Deep.RegionWith
import Derived.Deep.LoopGhost
namespace Go.Proofs.Ytmgblmdilepkpaa
open Go.RowKit

theorem infoS : (Try.prog.info? 9).map (fun i => (i.zero, i.size, i.bytes)) = some (some (fs ByteArray.empty), 1, 16) := by kernel_rfl
theorem infoB : (Try.prog.info? 4).map (fun i => (i.zero, i.size, i.bytes)) = some (some (fb false), 1, 1) := by kernel_rfl
theorem wp_appS (w : World) {ops : Array Oper} {rest : List Oper} {o : Oper} {a : Act} {Q : Exit → Act → World → Prop}
    (hg : o.guard = none) (s x : Operand) (hop : o.op = Op.call { callee := Callee.builtin Builtin.append, args := #[s, x], argTypes := #[22, 22] })
    (base : Nat) (A : Option Addr) (c n : Nat) (l : List Str) (hs : a.eval s = .slice A n c) (hn : n = l.length) (hown : OS w base A c l)
    (D : Option Addr) (d m : Nat) (r : List Str) (hx : a.eval x = .slice D m d) (hm : m = r.length) (Br : Nat) (hr : RS w Br D d r)
    (hlen : l.length + r.length ≤ 1000000) (hbase : base ≤ w.heap.size)
    (hK : ∀ A' c' w', OS w' base A' c' (l ++ r) → w.grownBy w' (Value.slice A n c).ownBlock → Below base w w' → wpList Try.prog ops Q rest (a.put o.dst (.slice A' (l ++ r).length c')) w') :
    wpList Try.prog ops Q (o :: rest) a w :=
  wp_app w 22 9 fs ByteArray.empty 16 Try.underlying22 infoS (fun _ => ⟨rfl, rfl⟩) hg s x hop base A c n l hs hn hown D d m r hx hm Br hr (by omega) (by omega) hbase
    fun A' c' w' h1 h2 _ => hK A' c' w' h1 h2 ((Below.refl _ _).grown h2 hbase (by
      intro k hk
      rcases hown.form with ⟨rfl, _⟩ | ⟨g, rfl, hb, _⟩
      · simp [Value.ownBlock] at hk
      · simp [Value.ownBlock] at hk; omega))
theorem wp_appB (w : World) {ops : Array Oper} {rest : List Oper} {o : Oper} {a : Act} {Q : Exit → Act → World → Prop}
    (hg : o.guard = none) (s x : Operand) (hop : o.op = Op.call { callee := Callee.builtin Builtin.append, args := #[s, x], argTypes := #[23, 23] })
    (base : Nat) (A : Option Addr) (c n : Nat) (l : List Bool) (hs : a.eval s = .slice A n c) (hn : n = l.length) (hown : OBo w base A c l)
    (D : Option Addr) (d m : Nat) (r : List Bool) (hx : a.eval x = .slice D m d) (hm : m = r.length) (Br : Nat) (hr : RBo w Br D d r)
    (hlen : l.length + r.length ≤ 1000000) (hbase : base ≤ w.heap.size)
    (hK : ∀ A' c' w', OBo w' base A' c' (l ++ r) → w.grownBy w' (Value.slice A n c).ownBlock → Below base w w' → wpList Try.prog ops Q rest (a.put o.dst (.slice A' (l ++ r).length c')) w') :
    wpList Try.prog ops Q (o :: rest) a w :=
  wp_app w 23 4 fb false 1 Try.underlying23 infoB (fun _ => ⟨rfl, rfl⟩) hg s x hop base A c n l hs hn hown D d m r hx hm Br hr (by omega) (by omega) hbase
    fun A' c' w' h1 h2 _ => hK A' c' w' h1 h2 ((Below.refl _ _).grown h2 hbase (by
      intro k hk
      rcases hown.form with ⟨rfl, _⟩ | ⟨g, rfl, hb, _⟩
      · simp [Value.ownBlock] at hk
      · simp [Value.ownBlock] at hk; omega))
theorem step_appB (w : World) {ops : Array Oper} {o : Oper} {a : Act} {K : Act → World → Prop} {Q : Exit → Act → World → Prop} {E : Prop}
    (hg : o.guard = none) (s x : Operand) (hop : o.op = Op.call { callee := Callee.builtin Builtin.append, args := #[s, x], argTypes := #[23, 23] })
    (base : Nat) (A : Option Addr) (c n : Nat) (l : List Bool) (hs : a.eval s = .slice A n c) (hn : n = l.length) (hown : OBo w base A c l)
    (D : Option Addr) (d m : Nat) (r : List Bool) (hx : a.eval x = .slice D m d) (hm : m = r.length) (Br : Nat) (hr : RBo w Br D d r)
    (hlen : l.length + r.length ≤ 1000000) (hbase : base ≤ w.heap.size)
    (hK : ∀ A' c' w', OBo w' base A' c' (l ++ r) → Below base w w' → K (a.put o.dst (.slice A' (l ++ r).length c')) w') :
    if Region.wanted o (yielded ops a.tmps) = true then Oper.wp Try.prog o a w K Q else E :=
  step_app w 23 4 fb false 1 Try.underlying23 infoB (fun _ => ⟨rfl, rfl⟩) hg s x hop base A c n l hs hn hown D d m r hx hm Br hr (by omega) (by omega) hbase
    fun A' c' w' h1 h2 _ => hK A' c' w' h1 ((Below.refl _ _).grown h2 hbase (by
      intro k hk
      rcases hown.form with ⟨rfl, _⟩ | ⟨g, rfl, hb, _⟩
      · simp [Value.ownBlock] at hk
      · simp [Value.ownBlock] at hk; omega))
theorem RS.one (w : World) (t : TypeId) (x : Str) : RS (w.alloc (.cells #[.string x] t)) (w.heap.size + 1) (some ⟨w.heap.size, 0, none⟩) 1 [x] := by
  refine ⟨by simp, by simp, fun _ => ⟨_, _, rfl, by omega, fun k y hk => ?_⟩⟩
  match k, hk with
  | 0, hk => simp at hk; subst hk; have := cell_one_new w (.string x) t 0 _ rfl; rwa [Addr.add_lit] at this
theorem RBo.one (w : World) (t : TypeId) (x : Bool) : RBo (w.alloc (.cells #[.bool x] t)) (w.heap.size + 1) (some ⟨w.heap.size, 0, none⟩) 1 [x] := by
  refine ⟨by simp, by simp, fun _ => ⟨_, _, rfl, by omega, fun k y hk => ?_⟩⟩
  match k, hk with
  | 0, hk => simp at hk; subst hk; have := cell_one_new w (.bool x) t 0 _ rfl; rwa [Addr.add_lit] at this
theorem OS.empty (w : World) : OS (w.alloc (.cells #[] 9)) w.heap.size (some ⟨w.heap.size, 0, none⟩) 0 [] := by
  refine ⟨?_, by simp⟩
  have h := World.ownsRow_lit (e := 9) (size := 1) w #[] 0 (Nat.le_refl _) (by unfold maxLen; omega) (by simp)
  simpa using h

theorem clone_any (A : Option Addr) (c n : Nat) (l : List Str) (w : World) (hn : n = l.length) (hsm : l.length ≤ 1000) (h : RS w w.heap.size A c l) :
    Calls Try.prog 40 #[.slice A n c] w fun e w' => ∃ A' c', e = .returned (.slice A' l.length c') ∧ OS w' w.heap.size A' c' l ∧ Below w.heap.size w w' := by
  subst hn
  have q22 : ∀ (w : World) (a : Option Addr) (n c n' c' : Nat), (binOp .eql 22 (.slice a n c) (.slice none n' c')).run Try.prog w = .ok (.bool a.isNone) w := fun w a n c n' c' => Lib.run_eql_slice_nil w _ _ a n c n' c' Try.underlying22
  rcases A with _ | ad
  · have hl0 : l = [] := by
      rcases Nat.eq_zero_or_pos l.length with h0 | h0
      · exact List.eq_nil_of_length_eq_zero h0
      · obtain ⟨_, _, e, _⟩ := h.at_ h0; cases e
    subst hl0
    go_enter Try.func40, Try.ntmps40
    go_wp2
    go_ret
    exact ⟨none, 0, rfl, OL.nil .., Below.refl _ _⟩
  · have hb1 : Below w.heap.size w (w.alloc (.cells #[] 9)) := (Below.refl _ _).alloc (Nat.le_refl _) _
    have hr := h.below hb1
    clear h
    go_enter Try.func40, Try.ntmps40
    go_wp2_with (at_builtin; refine wp_appS _ rfl _ _ rfl w.heap.size _ _ _ [] rfl rfl (OS.empty w) _ _ _ l rfl rfl _ hr (by simp; omega) (by simp) ?_; intro A' c' w' h1 h2 h3)
    go_ret
    exact ⟨A', c', by simp, h1, hb1.trans h3⟩

/-- a struct of two cells in a block -/
def SC (w : World) (b : Nat) (v0 v1 : Value) : Prop :=
  w.cell? ⟨b, 0, none⟩ = some v0 ∧ w.cell? ⟨b, 1, none⟩ = some v1 ∧ w.frozen? ⟨b, 0, none⟩ = false ∧ w.frozen? ⟨b, 1, none⟩ = false ∧ b < w.heap.size
theorem SC.new (w : World) (v0 v1 : Value) (t : TypeId) : SC (w.alloc (.cells #[v0, v1] t)) w.heap.size v0 v1 := by
  have h0 := heap_alloc_new w (.cells #[v0, v1] t)
  refine ⟨?_, ?_, ?_, ?_, by simp⟩
  · rw [cell_of_row _ _ _ _ _ _ h0]; rfl
  · rw [cell_of_row _ _ _ _ _ _ h0]; rfl
  · unfold World.frozen?; rw [h0]; rfl
  · unfold World.frozen?; rw [h0]; rfl
theorem SC.below {w w' : World} {b B : Nat} {v0 v1 : Value} (h : SC w b v0 v1) (hb : Below B w w') (hB : b < B) : SC w' b v0 v1 := by
  obtain ⟨h1, h2, h3, h4, h5⟩ := h
  exact ⟨(hb.cell hB).trans h1, (hb.cell hB).trans h2, (hb.frozen hB).trans h3, (hb.frozen hB).trans h4, Nat.lt_of_lt_of_le h5 hb.size⟩
theorem SC.set1 {w : World} {b : Nat} {v0 v1 v : Value} (h : SC w b v0 v1) : SC (w.setCell ⟨b, 1, none⟩ v) b v0 v := by
  obtain ⟨h1, h2, h3, h4, h5⟩ := h
  refine ⟨(World.cell?_setCell_other w _ _ v (by simp)).trans h1, ?_, (World.frozen?_setCell w _ _ v).trans h3, (World.frozen?_setCell w _ _ v).trans h4, by simpa [World.setCell] using h5⟩
  exact World.cell?_setCell_same w _ v h2
theorem SC.far {w : World} {b : Nat} {v0 v1 v : Value} {p : Addr} (h : SC w b v0 v1) (hp : b ≠ p.block) : SC (w.setCell p v) b v0 v1 := by
  obtain ⟨h1, h2, h3, h4, h5⟩ := h
  exact ⟨(World.cell?_setCell_other w _ _ v (fun e => hp (by rw [e]))).trans h1, (World.cell?_setCell_other w _ _ v (fun e => hp (by rw [e]))).trans h2, (World.frozen?_setCell w _ _ v).trans h3, (World.frozen?_setCell w _ _ v).trans h4, by simpa [World.setCell] using h5⟩
theorem SC.far' {w : World} {b : Nat} {v0 v1 : Value} (h : SC w b v0 v1) (p : Addr) (v : Value) (hp : p = ⟨b, 0, none⟩ := by rfl) : SC (w.setCell p v) b v v1 := by
  subst hp
  obtain ⟨h1, h2, h3, h4, h5⟩ := h
  exact ⟨World.cell?_setCell_same w _ v h1, (World.cell?_setCell_other w _ _ v (by simp)).trans h2, (World.frozen?_setCell w _ _ v).trans h3, (World.frozen?_setCell w _ _ v).trans h4, by simpa [World.setCell] using h5⟩
theorem SC.drewN {w : World} {b : Nat} {v0 v1 : Value} (h : SC w b v0 v1) (n : Nat) : SC (w.drewN n) b v0 v1 := h
/-- an answer: a set of the call's own -/
def RetSet (w : World) (u : List Str) (i : List Bool) (e : Ending) (w' : World) : Prop :=
  ∃ A c D d, e = .returned (.agg #[.slice A u.length c, .slice D i.length d]) ∧ OS w' w.heap.size A c u ∧ OBo w' w.heap.size D d i ∧ Below w.heap.size w w'

set_option maxHeartbeats 2000000 in
theorem make1_New (A : Option Addr) (c : Nat) (u : List Str) (w : World) (g : Nat → Bool) (hsm : u.length ≤ 1000) (hu : RS w w.heap.size A c u)
    (hF : ∀ (k : Nat) (y : Str) (w' : World), u[k]? = some y → Below w.heap.size w w' → Calls Try.prog 29 #[.int .i64 (k : Int), .string y] w' fun e w'' => e = .returned (.bool (g k)) ∧ Below w'.heap.size w' w'') :
    Calls Try.prog 28 #[.slice A u.length c, .func (.func 29) #[] #[]] w (RetSet w u ((List.range u.length).map g)) := by
  have hcl := fun w' h => clone_any A c _ u w' rfl hsm h
  go_enter Try.func28, Try.ntmps28
  go_wp2_with fail
  have B1 := bal w (.cells #[.slice none 0 0, .slice none 0 0] 25)
  refine (hcl _ (st hu B1)).mono ?_; rintro e w2 ⟨A2, c2, rfl, O2, B2⟩
  go_wp2_with fail
  have hw2 : (w.alloc (.cells #[.slice none 0 0, .slice none 0 0] 25)).heap.size = w.heap.size + 1 := by simp
  rw [hw2] at O2 B2
  have hs2 : w.heap.size + 1 ≤ w2.heap.size := by have := B2.size; rw [hw2] at this; exact this
  have c0 := SC.new w (.slice none 0 0) (.slice none 0 0) 25
  have B3 := bal w2 (.cells #[.slice A2 u.length c2, .slice none 0 0] 25)
  have c0' := (c0.below B2 (Nat.lt_succ_self _)).below B3 (by omega)
  have o0 := SC.new w2 (.slice A2 u.length c2) (.slice none 0 0) 25
  have Ba : Below w.heap.size w (w2.alloc (.cells #[.slice A2 u.length c2, .slice none 0 0] 25)) := (B1.trans (B2.mono (Nat.le_succ _))).trans (B3.mono (by omega))
  have hsz3 : w2.heap.size + 1 ≤ (w2.alloc (.cells #[.slice A2 u.length c2, .slice none 0 0] 25)).heap.size := by simp
  have O2' := O2.alloc (.cells #[.slice A2 u.length c2, .slice none 0 0] 25)
  have hA2 : ∀ g, A2 = some ⟨g, 0, none⟩ → g < w2.heap.size := fun g hg => by subst hg; exact O2.lt.2
  have HA2 := Lib.hid hA2
  clear hcl c0 hA2
  go_loopg [13] u.length (fun g' iv wr => ∃ (k : Nat) (D : Option Addr) (d : Nat), k ≤ u.length ∧ u.length - k = g' ∧ iv = .int .i64 (k : Int) ∧ SC wr w2.heap.size (.slice A2 u.length c2) (.slice D k d) ∧ SC wr w.heap.size (.slice none 0 0) (.slice none 0 0) ∧
    OBo wr (w2.heap.size + 1) D d ((List.range k).map g) ∧ OS wr (w.heap.size + 1) A2 c2 u ∧ Below w.heap.size w wr ∧ Hid (w2.heap.size + 1 ≤ wr.heap.size))
  case atStart => exact ⟨0, none, 0, Nat.zero_le _, rfl, rfl, o0, c0', OL.nil .., O2', Ba, hsz3⟩
  case round =>
    obtain ⟨k, D, d, hk, rfl, rfl, o1, c1, Od, Os, B, hsz⟩ := hrel
    by_cases h0 : k < u.length
    · obtain ⟨b1, of1, rfl, hlt1, hx⟩ := (st hu B).at_ (by omega)
      obtain ⟨y, hy⟩ : ∃ y, u[k]? = some y := ⟨_, List.getElem?_eq_getElem h0⟩
      have hxk := hx k y hy
      change _ = some (Value.string y) at hxk
      have hf := fun w' hb => hF k y w' hy hb
      have cc := o1.1
      have cd := o1.2.1
      have cf := o1.2.2.2.1
      have hlen : ((List.range k).map g).length = k := by simp
      clear hx hF
      go_wp2
      go_region_law (first
        | (refine step_appB (w3.alloc (.cells #[.bool (g k)] 4)) rfl _ _ rfl (w2.heap.size + 1) D d k ((List.range k).map g) rfl hlen.symm (((Od.drewN 1).below B4 (Nat.le_refl _)).alloc _) _ _ 1 [g k] rfl rfl _ (RBo.one w3 _ (g k)) (by simp; omega) (by have h1 := hsz.out; have h2 := B4.size; simp at h2 ⊢; omega) ?_; intro D5 d5 w5 g1 g2; have B3' := (bdN (Below.refl (w2.heap.size + 1) wr) 1).trans ((B4.mono hsz.out).alloc (by have h1 := hsz.out; have h2 := B4.size; simp at h2 ⊢; omega) (.cells #[.bool (g k)] 4)); have B5' := B3'.trans g2; have o5 := o1.below B5' (Nat.lt_succ_self _); have k5 := o5.2.1; have f5 := o5.2.2.2.1)
        | (go_simp; go_at_call 29; refine (hf _ ?_).mono ?_; exact bdN B 1; rintro e w3 ⟨rfl, B4⟩; have cc3 := (o1.below ((bdN (Below.refl (w2.heap.size + 1) wr) 1).trans (B4.mono hsz.out)) (Nat.lt_succ_self _)).2.1; have cc4 := (o1.below ((bdN (Below.refl (w2.heap.size + 1) wr) 1).trans ((B4.mono hsz.out).alloc (by have h1 := hsz.out; have h2 := B4.size; simp at h2 ⊢; omega) (.cells #[.bool (g k)] 4))) (Nat.lt_succ_self _)).2.1))
      all_goals
        have C5 := B.trans (B5'.mono (by omega))
        have o6 : SC (w5.setCell ⟨w2.heap.size, 1, none⟩ (.slice D5 (k + 1) d5)) w2.heap.size (.slice A2 u.length c2) (.slice D5 (k + 1) d5) := o5.set1
        have c6 : SC (w5.setCell ⟨w2.heap.size, 1, none⟩ (.slice D5 (k + 1) d5)) w.heap.size (.slice none 0 0) (.slice none 0 0) := (c1.below B5' (by omega)).far (by show w.heap.size ≠ w2.heap.size; omega)
        have hl6 : (List.range (k + 1)).map g = (List.range k).map g ++ [g k] := by rw [List.range_succ, List.map_append]; rfl
        have od6 : OBo (w5.setCell ⟨w2.heap.size, 1, none⟩ (.slice D5 (k + 1) d5)) (w2.heap.size + 1) D5 d5 ((List.range (k + 1)).map g) := by rw [hl6]; exact g1.far (fun g' hg => by subst hg; have := g1.lt.1; show g' ≠ w2.heap.size; omega) _
        have os6 : OS (w5.setCell ⟨w2.heap.size, 1, none⟩ (.slice D5 (k + 1) d5)) (w.heap.size + 1) A2 c2 u := (OL.kept Os (fun g' hg => B5'.block g' (by have := HA2.out g' hg; omega))).far (fun g' hg => by have := HA2.out g' hg; show g' ≠ w2.heap.size; omega) _
        have C6 : Below w.heap.size w (w5.setCell ⟨w2.heap.size, 1, none⟩ (.slice D5 (k + 1) d5)) := C5.setCell (by show w.heap.size ≤ w2.heap.size; omega) _
        have s6 : Hid (w2.heap.size + 1 ≤ (w5.setCell ⟨w2.heap.size, 1, none⟩ (.slice D5 (k + 1) d5)).heap.size) := by show _ ≤ _; simp only [World.setCell, Array.size_modify]; exact Nat.le_trans hsz.out B5'.size
        go_wp2
        go_roundg (u.length - (k + 1))
        case measure => omega
        case rel => exact ⟨k + 1, D5, d5, by omega, rfl, by go_num, o6, c6, od6, os6, C6, s6⟩
    · obtain rfl : k = u.length := by omega
      have k1 := o1.1
      have k2 := o1.2.1
      have k3 := c1.1
      have k4 := c1.2.1
      have k5 := c1.2.2.1
      have k6 := c1.2.2.2.1
      clear hF
      have c7 := (c1.far' ⟨w.heap.size, 0, none⟩ (.slice A2 u.length c2)).set1 (v := .slice D u.length d)
      have r1 := c7.1
      have r2 := c7.2.1
      have hbw : Below w.heap.size w ((wr.setCell ⟨w.heap.size, 0, none⟩ (.slice A2 u.length c2)).setCell ⟨w.heap.size, 1, none⟩ (.slice D u.length d)) := (B.setCell (p := ⟨w.heap.size, 0, none⟩) (Nat.le_refl _) _).setCell (p := ⟨w.heap.size, 1, none⟩) (Nat.le_refl _) _
      go_wp2
      refine bodyPost_ret (v := .agg #[.slice A2 u.length c2, .slice D u.length d]) (by simp [results, r1, r2, go_sem]) rfl ?_
      exact ⟨A2, c2, D, d, by simp, ((Os.far (fun g hg => by subst hg; have := Os.lt.1; show g ≠ w.heap.size; omega) _).far (fun g hg => by subst hg; have := Os.lt.1; show g ≠ w.heap.size; omega) _).base_le (Nat.le_succ _), (((Od.far (fun g hg => by subst hg; have := Od.lt.1; show g ≠ w.heap.size; omega) _).far (fun g hg => by subst hg; have := Od.lt.1; show g ≠ w.heap.size; omega) _).base_le (by omega)), hbw⟩
set_option maxHeartbeats 2000000 in
theorem make1_Of (A : Option Addr) (c : Nat) (u : List Str) (w : World) (p1 : Option Addr) (g : Nat → Bool) (hsm : u.length ≤ 1000) (hu : RS w w.heap.size A c u)
    (hF : ∀ (k : Nat) (y : Str) (w' : World), u[k]? = some y → Below w.heap.size w w' → Calls Try.prog 31 #[.int .i64 (k : Int), .string y, .pointer p1] w' fun e w'' => e = .returned (.bool (g k)) ∧ Below w'.heap.size w' w'') :
    Calls Try.prog 28 #[.slice A u.length c, .func (.func 31) #[] #[.pointer p1]] w (RetSet w u ((List.range u.length).map g)) := by
  have hcl := fun w' h => clone_any A c _ u w' rfl hsm h
  go_enter Try.func28, Try.ntmps28
  go_wp2_with fail
  have B1 := bal w (.cells #[.slice none 0 0, .slice none 0 0] 25)
  refine (hcl _ (st hu B1)).mono ?_; rintro e w2 ⟨A2, c2, rfl, O2, B2⟩
  go_wp2_with fail
  have hw2 : (w.alloc (.cells #[.slice none 0 0, .slice none 0 0] 25)).heap.size = w.heap.size + 1 := by simp
  rw [hw2] at O2 B2
  have hs2 : w.heap.size + 1 ≤ w2.heap.size := by have := B2.size; rw [hw2] at this; exact this
  have c0 := SC.new w (.slice none 0 0) (.slice none 0 0) 25
  have B3 := bal w2 (.cells #[.slice A2 u.length c2, .slice none 0 0] 25)
  have c0' := (c0.below B2 (Nat.lt_succ_self _)).below B3 (by omega)
  have o0 := SC.new w2 (.slice A2 u.length c2) (.slice none 0 0) 25
  have Ba : Below w.heap.size w (w2.alloc (.cells #[.slice A2 u.length c2, .slice none 0 0] 25)) := (B1.trans (B2.mono (Nat.le_succ _))).trans (B3.mono (by omega))
  have hsz3 : w2.heap.size + 1 ≤ (w2.alloc (.cells #[.slice A2 u.length c2, .slice none 0 0] 25)).heap.size := by simp
  have O2' := O2.alloc (.cells #[.slice A2 u.length c2, .slice none 0 0] 25)
  have hA2 : ∀ g, A2 = some ⟨g, 0, none⟩ → g < w2.heap.size := fun g hg => by subst hg; exact O2.lt.2
  have HA2 := Lib.hid hA2
  clear hcl c0 hA2
  go_loopg [13] u.length (fun g' iv wr => ∃ (k : Nat) (D : Option Addr) (d : Nat), k ≤ u.length ∧ u.length - k = g' ∧ iv = .int .i64 (k : Int) ∧ SC wr w2.heap.size (.slice A2 u.length c2) (.slice D k d) ∧ SC wr w.heap.size (.slice none 0 0) (.slice none 0 0) ∧
    OBo wr (w2.heap.size + 1) D d ((List.range k).map g) ∧ OS wr (w.heap.size + 1) A2 c2 u ∧ Below w.heap.size w wr ∧ Hid (w2.heap.size + 1 ≤ wr.heap.size))
  case atStart => exact ⟨0, none, 0, Nat.zero_le _, rfl, rfl, o0, c0', OL.nil .., O2', Ba, hsz3⟩
  case round =>
    obtain ⟨k, D, d, hk, rfl, rfl, o1, c1, Od, Os, B, hsz⟩ := hrel
    by_cases h0 : k < u.length
    · obtain ⟨b1, of1, rfl, hlt1, hx⟩ := (st hu B).at_ (by omega)
      obtain ⟨y, hy⟩ : ∃ y, u[k]? = some y := ⟨_, List.getElem?_eq_getElem h0⟩
      have hxk := hx k y hy
      change _ = some (Value.string y) at hxk
      have hf := fun w' hb => hF k y w' hy hb
      have cc := o1.1
      have cd := o1.2.1
      have cf := o1.2.2.2.1
      have hlen : ((List.range k).map g).length = k := by simp
      clear hx hF
      go_wp2
      go_region_law (first
        | (refine step_appB (w3.alloc (.cells #[.bool (g k)] 4)) rfl _ _ rfl (w2.heap.size + 1) D d k ((List.range k).map g) rfl hlen.symm (((Od.drewN 1).below B4 (Nat.le_refl _)).alloc _) _ _ 1 [g k] rfl rfl _ (RBo.one w3 _ (g k)) (by simp; omega) (by have h1 := hsz.out; have h2 := B4.size; simp at h2 ⊢; omega) ?_; intro D5 d5 w5 g1 g2; have B3' := (bdN (Below.refl (w2.heap.size + 1) wr) 1).trans ((B4.mono hsz.out).alloc (by have h1 := hsz.out; have h2 := B4.size; simp at h2 ⊢; omega) (.cells #[.bool (g k)] 4)); have B5' := B3'.trans g2; have o5 := o1.below B5' (Nat.lt_succ_self _); have k5 := o5.2.1; have f5 := o5.2.2.2.1)
        | (go_simp; go_at_call 31; refine (hf _ ?_).mono ?_; exact bdN B 1; rintro e w3 ⟨rfl, B4⟩; have cc3 := (o1.below ((bdN (Below.refl (w2.heap.size + 1) wr) 1).trans (B4.mono hsz.out)) (Nat.lt_succ_self _)).2.1; have cc4 := (o1.below ((bdN (Below.refl (w2.heap.size + 1) wr) 1).trans ((B4.mono hsz.out).alloc (by have h1 := hsz.out; have h2 := B4.size; simp at h2 ⊢; omega) (.cells #[.bool (g k)] 4))) (Nat.lt_succ_self _)).2.1))
      all_goals
        have C5 := B.trans (B5'.mono (by omega))
        have o6 : SC (w5.setCell ⟨w2.heap.size, 1, none⟩ (.slice D5 (k + 1) d5)) w2.heap.size (.slice A2 u.length c2) (.slice D5 (k + 1) d5) := o5.set1
        have c6 : SC (w5.setCell ⟨w2.heap.size, 1, none⟩ (.slice D5 (k + 1) d5)) w.heap.size (.slice none 0 0) (.slice none 0 0) := (c1.below B5' (by omega)).far (by show w.heap.size ≠ w2.heap.size; omega)
        have hl6 : (List.range (k + 1)).map g = (List.range k).map g ++ [g k] := by rw [List.range_succ, List.map_append]; rfl
        have od6 : OBo (w5.setCell ⟨w2.heap.size, 1, none⟩ (.slice D5 (k + 1) d5)) (w2.heap.size + 1) D5 d5 ((List.range (k + 1)).map g) := by rw [hl6]; exact g1.far (fun g' hg => by subst hg; have := g1.lt.1; show g' ≠ w2.heap.size; omega) _
        have os6 : OS (w5.setCell ⟨w2.heap.size, 1, none⟩ (.slice D5 (k + 1) d5)) (w.heap.size + 1) A2 c2 u := (OL.kept Os (fun g' hg => B5'.block g' (by have := HA2.out g' hg; omega))).far (fun g' hg => by have := HA2.out g' hg; show g' ≠ w2.heap.size; omega) _
        have C6 : Below w.heap.size w (w5.setCell ⟨w2.heap.size, 1, none⟩ (.slice D5 (k + 1) d5)) := C5.setCell (by show w.heap.size ≤ w2.heap.size; omega) _
        have s6 : Hid (w2.heap.size + 1 ≤ (w5.setCell ⟨w2.heap.size, 1, none⟩ (.slice D5 (k + 1) d5)).heap.size) := by show _ ≤ _; simp only [World.setCell, Array.size_modify]; exact Nat.le_trans hsz.out B5'.size
        go_wp2
        go_roundg (u.length - (k + 1))
        case measure => omega
        case rel => exact ⟨k + 1, D5, d5, by omega, rfl, by go_num, o6, c6, od6, os6, C6, s6⟩
    · obtain rfl : k = u.length := by omega
      have k1 := o1.1
      have k2 := o1.2.1
      have k3 := c1.1
      have k4 := c1.2.1
      have k5 := c1.2.2.1
      have k6 := c1.2.2.2.1
      clear hF
      have c7 := (c1.far' ⟨w.heap.size, 0, none⟩ (.slice A2 u.length c2)).set1 (v := .slice D u.length d)
      have r1 := c7.1
      have r2 := c7.2.1
      have hbw : Below w.heap.size w ((wr.setCell ⟨w.heap.size, 0, none⟩ (.slice A2 u.length c2)).setCell ⟨w.heap.size, 1, none⟩ (.slice D u.length d)) := (B.setCell (p := ⟨w.heap.size, 0, none⟩) (Nat.le_refl _) _).setCell (p := ⟨w.heap.size, 1, none⟩) (Nat.le_refl _) _
      go_wp2
      refine bodyPost_ret (v := .agg #[.slice A2 u.length c2, .slice D u.length d]) (by simp [results, r1, r2, go_sem]) rfl ?_
      exact ⟨A2, c2, D, d, by simp, ((Os.far (fun g hg => by subst hg; have := Os.lt.1; show g ≠ w.heap.size; omega) _).far (fun g hg => by subst hg; have := Os.lt.1; show g ≠ w.heap.size; omega) _).base_le (Nat.le_succ _), (((Od.far (fun g hg => by subst hg; have := Od.lt.1; show g ≠ w.heap.size; omega) _).far (fun g hg => by subst hg; have := Od.lt.1; show g ≠ w.heap.size; omega) _).base_le (by omega)), hbw⟩
set_option maxHeartbeats 2000000 in
theorem make1_Both (A : Option Addr) (c : Nat) (u : List Str) (w : World) (p1 p2 p3 : Option Addr) (g : Nat → Bool) (hsm : u.length ≤ 1000) (hu : RS w w.heap.size A c u)
    (hF : ∀ (k : Nat) (y : Str) (w' : World), u[k]? = some y → Below w.heap.size w w' → Calls Try.prog 42 #[.int .i64 (k : Int), .string y, .pointer p1, .pointer p2, .pointer p3] w' fun e w'' => e = .returned (.bool (g k)) ∧ Below w'.heap.size w' w'') :
    Calls Try.prog 28 #[.slice A u.length c, .func (.func 42) #[] #[.pointer p1, .pointer p2, .pointer p3]] w (RetSet w u ((List.range u.length).map g)) := by
  have hcl := fun w' h => clone_any A c _ u w' rfl hsm h
  go_enter Try.func28, Try.ntmps28
  go_wp2_with fail
  have B1 := bal w (.cells #[.slice none 0 0, .slice none 0 0] 25)
  refine (hcl _ (st hu B1)).mono ?_; rintro e w2 ⟨A2, c2, rfl, O2, B2⟩
  go_wp2_with fail
  have hw2 : (w.alloc (.cells #[.slice none 0 0, .slice none 0 0] 25)).heap.size = w.heap.size + 1 := by simp
  rw [hw2] at O2 B2
  have hs2 : w.heap.size + 1 ≤ w2.heap.size := by have := B2.size; rw [hw2] at this; exact this
  have c0 := SC.new w (.slice none 0 0) (.slice none 0 0) 25
  have B3 := bal w2 (.cells #[.slice A2 u.length c2, .slice none 0 0] 25)
  have c0' := (c0.below B2 (Nat.lt_succ_self _)).below B3 (by omega)
  have o0 := SC.new w2 (.slice A2 u.length c2) (.slice none 0 0) 25
  have Ba : Below w.heap.size w (w2.alloc (.cells #[.slice A2 u.length c2, .slice none 0 0] 25)) := (B1.trans (B2.mono (Nat.le_succ _))).trans (B3.mono (by omega))
  have hsz3 : w2.heap.size + 1 ≤ (w2.alloc (.cells #[.slice A2 u.length c2, .slice none 0 0] 25)).heap.size := by simp
  have O2' := O2.alloc (.cells #[.slice A2 u.length c2, .slice none 0 0] 25)
  have hA2 : ∀ g, A2 = some ⟨g, 0, none⟩ → g < w2.heap.size := fun g hg => by subst hg; exact O2.lt.2
  have HA2 := Lib.hid hA2
  clear hcl c0 hA2
  go_loopg [13] u.length (fun g' iv wr => ∃ (k : Nat) (D : Option Addr) (d : Nat), k ≤ u.length ∧ u.length - k = g' ∧ iv = .int .i64 (k : Int) ∧ SC wr w2.heap.size (.slice A2 u.length c2) (.slice D k d) ∧ SC wr w.heap.size (.slice none 0 0) (.slice none 0 0) ∧
    OBo wr (w2.heap.size + 1) D d ((List.range k).map g) ∧ OS wr (w.heap.size + 1) A2 c2 u ∧ Below w.heap.size w wr ∧ Hid (w2.heap.size + 1 ≤ wr.heap.size))
  case atStart => exact ⟨0, none, 0, Nat.zero_le _, rfl, rfl, o0, c0', OL.nil .., O2', Ba, hsz3⟩
  case round =>
    obtain ⟨k, D, d, hk, rfl, rfl, o1, c1, Od, Os, B, hsz⟩ := hrel
    by_cases h0 : k < u.length
    · obtain ⟨b1, of1, rfl, hlt1, hx⟩ := (st hu B).at_ (by omega)
      obtain ⟨y, hy⟩ : ∃ y, u[k]? = some y := ⟨_, List.getElem?_eq_getElem h0⟩
      have hxk := hx k y hy
      change _ = some (Value.string y) at hxk
      have hf := fun w' hb => hF k y w' hy hb
      have cc := o1.1
      have cd := o1.2.1
      have cf := o1.2.2.2.1
      have hlen : ((List.range k).map g).length = k := by simp
      clear hx hF
      go_wp2
      go_region_law (first
        | (refine step_appB (w3.alloc (.cells #[.bool (g k)] 4)) rfl _ _ rfl (w2.heap.size + 1) D d k ((List.range k).map g) rfl hlen.symm (((Od.drewN 1).below B4 (Nat.le_refl _)).alloc _) _ _ 1 [g k] rfl rfl _ (RBo.one w3 _ (g k)) (by simp; omega) (by have h1 := hsz.out; have h2 := B4.size; simp at h2 ⊢; omega) ?_; intro D5 d5 w5 g1 g2; have B3' := (bdN (Below.refl (w2.heap.size + 1) wr) 1).trans ((B4.mono hsz.out).alloc (by have h1 := hsz.out; have h2 := B4.size; simp at h2 ⊢; omega) (.cells #[.bool (g k)] 4)); have B5' := B3'.trans g2; have o5 := o1.below B5' (Nat.lt_succ_self _); have k5 := o5.2.1; have f5 := o5.2.2.2.1)
        | (go_simp; go_at_call 42; refine (hf _ ?_).mono ?_; exact bdN B 1; rintro e w3 ⟨rfl, B4⟩; have cc3 := (o1.below ((bdN (Below.refl (w2.heap.size + 1) wr) 1).trans (B4.mono hsz.out)) (Nat.lt_succ_self _)).2.1; have cc4 := (o1.below ((bdN (Below.refl (w2.heap.size + 1) wr) 1).trans ((B4.mono hsz.out).alloc (by have h1 := hsz.out; have h2 := B4.size; simp at h2 ⊢; omega) (.cells #[.bool (g k)] 4))) (Nat.lt_succ_self _)).2.1))
      all_goals
        have C5 := B.trans (B5'.mono (by omega))
        have o6 : SC (w5.setCell ⟨w2.heap.size, 1, none⟩ (.slice D5 (k + 1) d5)) w2.heap.size (.slice A2 u.length c2) (.slice D5 (k + 1) d5) := o5.set1
        have c6 : SC (w5.setCell ⟨w2.heap.size, 1, none⟩ (.slice D5 (k + 1) d5)) w.heap.size (.slice none 0 0) (.slice none 0 0) := (c1.below B5' (by omega)).far (by show w.heap.size ≠ w2.heap.size; omega)
        have hl6 : (List.range (k + 1)).map g = (List.range k).map g ++ [g k] := by rw [List.range_succ, List.map_append]; rfl
        have od6 : OBo (w5.setCell ⟨w2.heap.size, 1, none⟩ (.slice D5 (k + 1) d5)) (w2.heap.size + 1) D5 d5 ((List.range (k + 1)).map g) := by rw [hl6]; exact g1.far (fun g' hg => by subst hg; have := g1.lt.1; show g' ≠ w2.heap.size; omega) _
        have os6 : OS (w5.setCell ⟨w2.heap.size, 1, none⟩ (.slice D5 (k + 1) d5)) (w.heap.size + 1) A2 c2 u := (OL.kept Os (fun g' hg => B5'.block g' (by have := HA2.out g' hg; omega))).far (fun g' hg => by have := HA2.out g' hg; show g' ≠ w2.heap.size; omega) _
        have C6 : Below w.heap.size w (w5.setCell ⟨w2.heap.size, 1, none⟩ (.slice D5 (k + 1) d5)) := C5.setCell (by show w.heap.size ≤ w2.heap.size; omega) _
        have s6 : Hid (w2.heap.size + 1 ≤ (w5.setCell ⟨w2.heap.size, 1, none⟩ (.slice D5 (k + 1) d5)).heap.size) := by show _ ≤ _; simp only [World.setCell, Array.size_modify]; exact Nat.le_trans hsz.out B5'.size
        go_wp2
        go_roundg (u.length - (k + 1))
        case measure => omega
        case rel => exact ⟨k + 1, D5, d5, by omega, rfl, by go_num, o6, c6, od6, os6, C6, s6⟩
    · obtain rfl : k = u.length := by omega
      have k1 := o1.1
      have k2 := o1.2.1
      have k3 := c1.1
      have k4 := c1.2.1
      have k5 := c1.2.2.1
      have k6 := c1.2.2.2.1
      clear hF
      have c7 := (c1.far' ⟨w.heap.size, 0, none⟩ (.slice A2 u.length c2)).set1 (v := .slice D u.length d)
      have r1 := c7.1
      have r2 := c7.2.1
      have hbw : Below w.heap.size w ((wr.setCell ⟨w.heap.size, 0, none⟩ (.slice A2 u.length c2)).setCell ⟨w.heap.size, 1, none⟩ (.slice D u.length d)) := (B.setCell (p := ⟨w.heap.size, 0, none⟩) (Nat.le_refl _) _).setCell (p := ⟨w.heap.size, 1, none⟩) (Nat.le_refl _) _
      go_wp2
      refine bodyPost_ret (v := .agg #[.slice A2 u.length c2, .slice D u.length d]) (by simp [results, r1, r2, go_sem]) rfl ?_
      exact ⟨A2, c2, D, d, by simp, ((Os.far (fun g hg => by subst hg; have := Os.lt.1; show g ≠ w.heap.size; omega) _).far (fun g hg => by subst hg; have := Os.lt.1; show g ≠ w.heap.size; omega) _).base_le (Nat.le_succ _), (((Od.far (fun g hg => by subst hg; have := Od.lt.1; show g ≠ w.heap.size; omega) _).far (fun g hg => by subst hg; have := Od.lt.1; show g ≠ w.heap.size; omega) _).base_le (by omega)), hbw⟩
set_option maxHeartbeats 2000000 in
theorem make1_Project (A : Option Addr) (c : Nat) (u : List Str) (w : World) (p1 : Option Addr) (g : Nat → Bool) (hsm : u.length ≤ 1000) (hu : RS w w.heap.size A c u)
    (hF : ∀ (k : Nat) (y : Str) (w' : World), u[k]? = some y → Below w.heap.size w w' → Calls Try.prog 39 #[.int .i64 (k : Int), .string y, .pointer p1] w' fun e w'' => e = .returned (.bool (g k)) ∧ Below w'.heap.size w' w'') :
    Calls Try.prog 28 #[.slice A u.length c, .func (.func 39) #[] #[.pointer p1]] w (RetSet w u ((List.range u.length).map g)) := by
  have hcl := fun w' h => clone_any A c _ u w' rfl hsm h
  go_enter Try.func28, Try.ntmps28
  go_wp2_with fail
  have B1 := bal w (.cells #[.slice none 0 0, .slice none 0 0] 25)
  refine (hcl _ (st hu B1)).mono ?_; rintro e w2 ⟨A2, c2, rfl, O2, B2⟩
  go_wp2_with fail
  have hw2 : (w.alloc (.cells #[.slice none 0 0, .slice none 0 0] 25)).heap.size = w.heap.size + 1 := by simp
  rw [hw2] at O2 B2
  have hs2 : w.heap.size + 1 ≤ w2.heap.size := by have := B2.size; rw [hw2] at this; exact this
  have c0 := SC.new w (.slice none 0 0) (.slice none 0 0) 25
  have B3 := bal w2 (.cells #[.slice A2 u.length c2, .slice none 0 0] 25)
  have c0' := (c0.below B2 (Nat.lt_succ_self _)).below B3 (by omega)
  have o0 := SC.new w2 (.slice A2 u.length c2) (.slice none 0 0) 25
  have Ba : Below w.heap.size w (w2.alloc (.cells #[.slice A2 u.length c2, .slice none 0 0] 25)) := (B1.trans (B2.mono (Nat.le_succ _))).trans (B3.mono (by omega))
  have hsz3 : w2.heap.size + 1 ≤ (w2.alloc (.cells #[.slice A2 u.length c2, .slice none 0 0] 25)).heap.size := by simp
  have O2' := O2.alloc (.cells #[.slice A2 u.length c2, .slice none 0 0] 25)
  have hA2 : ∀ g, A2 = some ⟨g, 0, none⟩ → g < w2.heap.size := fun g hg => by subst hg; exact O2.lt.2
  have HA2 := Lib.hid hA2
  clear hcl c0 hA2
  go_loopg [13] u.length (fun g' iv wr => ∃ (k : Nat) (D : Option Addr) (d : Nat), k ≤ u.length ∧ u.length - k = g' ∧ iv = .int .i64 (k : Int) ∧ SC wr w2.heap.size (.slice A2 u.length c2) (.slice D k d) ∧ SC wr w.heap.size (.slice none 0 0) (.slice none 0 0) ∧
    OBo wr (w2.heap.size + 1) D d ((List.range k).map g) ∧ OS wr (w.heap.size + 1) A2 c2 u ∧ Below w.heap.size w wr ∧ Hid (w2.heap.size + 1 ≤ wr.heap.size))
  case atStart => exact ⟨0, none, 0, Nat.zero_le _, rfl, rfl, o0, c0', OL.nil .., O2', Ba, hsz3⟩
  case round =>
    obtain ⟨k, D, d, hk, rfl, rfl, o1, c1, Od, Os, B, hsz⟩ := hrel
    by_cases h0 : k < u.length
    · obtain ⟨b1, of1, rfl, hlt1, hx⟩ := (st hu B).at_ (by omega)
      obtain ⟨y, hy⟩ : ∃ y, u[k]? = some y := ⟨_, List.getElem?_eq_getElem h0⟩
      have hxk := hx k y hy
      change _ = some (Value.string y) at hxk
      have hf := fun w' hb => hF k y w' hy hb
      have cc := o1.1
      have cd := o1.2.1
      have cf := o1.2.2.2.1
      have hlen : ((List.range k).map g).length = k := by simp
      clear hx hF
      go_wp2
      go_region_law (first
        | (refine step_appB (w3.alloc (.cells #[.bool (g k)] 4)) rfl _ _ rfl (w2.heap.size + 1) D d k ((List.range k).map g) rfl hlen.symm (((Od.drewN 1).below B4 (Nat.le_refl _)).alloc _) _ _ 1 [g k] rfl rfl _ (RBo.one w3 _ (g k)) (by simp; omega) (by have h1 := hsz.out; have h2 := B4.size; simp at h2 ⊢; omega) ?_; intro D5 d5 w5 g1 g2; have B3' := (bdN (Below.refl (w2.heap.size + 1) wr) 1).trans ((B4.mono hsz.out).alloc (by have h1 := hsz.out; have h2 := B4.size; simp at h2 ⊢; omega) (.cells #[.bool (g k)] 4)); have B5' := B3'.trans g2; have o5 := o1.below B5' (Nat.lt_succ_self _); have k5 := o5.2.1; have f5 := o5.2.2.2.1)
        | (go_simp; go_at_call 39; refine (hf _ ?_).mono ?_; exact bdN B 1; rintro e w3 ⟨rfl, B4⟩; have cc3 := (o1.below ((bdN (Below.refl (w2.heap.size + 1) wr) 1).trans (B4.mono hsz.out)) (Nat.lt_succ_self _)).2.1; have cc4 := (o1.below ((bdN (Below.refl (w2.heap.size + 1) wr) 1).trans ((B4.mono hsz.out).alloc (by have h1 := hsz.out; have h2 := B4.size; simp at h2 ⊢; omega) (.cells #[.bool (g k)] 4))) (Nat.lt_succ_self _)).2.1))
      all_goals
        have C5 := B.trans (B5'.mono (by omega))
        have o6 : SC (w5.setCell ⟨w2.heap.size, 1, none⟩ (.slice D5 (k + 1) d5)) w2.heap.size (.slice A2 u.length c2) (.slice D5 (k + 1) d5) := o5.set1
        have c6 : SC (w5.setCell ⟨w2.heap.size, 1, none⟩ (.slice D5 (k + 1) d5)) w.heap.size (.slice none 0 0) (.slice none 0 0) := (c1.below B5' (by omega)).far (by show w.heap.size ≠ w2.heap.size; omega)
        have hl6 : (List.range (k + 1)).map g = (List.range k).map g ++ [g k] := by rw [List.range_succ, List.map_append]; rfl
        have od6 : OBo (w5.setCell ⟨w2.heap.size, 1, none⟩ (.slice D5 (k + 1) d5)) (w2.heap.size + 1) D5 d5 ((List.range (k + 1)).map g) := by rw [hl6]; exact g1.far (fun g' hg => by subst hg; have := g1.lt.1; show g' ≠ w2.heap.size; omega) _
        have os6 : OS (w5.setCell ⟨w2.heap.size, 1, none⟩ (.slice D5 (k + 1) d5)) (w.heap.size + 1) A2 c2 u := (OL.kept Os (fun g' hg => B5'.block g' (by have := HA2.out g' hg; omega))).far (fun g' hg => by have := HA2.out g' hg; show g' ≠ w2.heap.size; omega) _
        have C6 : Below w.heap.size w (w5.setCell ⟨w2.heap.size, 1, none⟩ (.slice D5 (k + 1) d5)) := C5.setCell (by show w.heap.size ≤ w2.heap.size; omega) _
        have s6 : Hid (w2.heap.size + 1 ≤ (w5.setCell ⟨w2.heap.size, 1, none⟩ (.slice D5 (k + 1) d5)).heap.size) := by show _ ≤ _; simp only [World.setCell, Array.size_modify]; exact Nat.le_trans hsz.out B5'.size
        go_wp2
        go_roundg (u.length - (k + 1))
        case measure => omega
        case rel => exact ⟨k + 1, D5, d5, by omega, rfl, by go_num, o6, c6, od6, os6, C6, s6⟩
    · obtain rfl : k = u.length := by omega
      have k1 := o1.1
      have k2 := o1.2.1
      have k3 := c1.1
      have k4 := c1.2.1
      have k5 := c1.2.2.1
      have k6 := c1.2.2.2.1
      clear hF
      have c7 := (c1.far' ⟨w.heap.size, 0, none⟩ (.slice A2 u.length c2)).set1 (v := .slice D u.length d)
      have r1 := c7.1
      have r2 := c7.2.1
      have hbw : Below w.heap.size w ((wr.setCell ⟨w.heap.size, 0, none⟩ (.slice A2 u.length c2)).setCell ⟨w.heap.size, 1, none⟩ (.slice D u.length d)) := (B.setCell (p := ⟨w.heap.size, 0, none⟩) (Nat.le_refl _) _).setCell (p := ⟨w.heap.size, 1, none⟩) (Nat.le_refl _) _
      go_wp2
      refine bodyPost_ret (v := .agg #[.slice A2 u.length c2, .slice D u.length d]) (by simp [results, r1, r2, go_sem]) rfl ?_
      exact ⟨A2, c2, D, d, by simp, ((Os.far (fun g hg => by subst hg; have := Os.lt.1; show g ≠ w.heap.size; omega) _).far (fun g hg => by subst hg; have := Os.lt.1; show g ≠ w.heap.size; omega) _).base_le (Nat.le_succ _), (((Od.far (fun g hg => by subst hg; have := Od.lt.1; show g ≠ w.heap.size; omega) _).far (fun g hg => by subst hg; have := Od.lt.1; show g ≠ w.heap.size; omega) _).base_le (by omega)), hbw⟩
end Go.Proofs.Ytmgblmdilepkpaa
