/- Fractions in memory: a struct's cells in a block; what a fraction's value, and a number's, read as. -/
import Derived.Test.YtabcnpcfknlmlaaNDiv
import Derived.Test.YtabcnpcfknlmlaaPlainR
import Derived.Deep.RegionHeld3
import Derived.Deep.DeepCutAuto
import Derived.Deep.MidRow
namespace Go.Proofs.Ytabcnpcfknlmlaa
open Go.RowKit

theorem bt {w w1 w2 : World} (h1 : Below w.heap.size w w1) (h2 : Below w1.heap.size w1 w2) : Below w.heap.size w w2 := h1.trans (h2.mono h1.size)
theorem st {w w' : World} {A : Option Addr} {c : Nat} {l : List Nat} (h : RW w w.heap.size A c l) (b : Below w.heap.size w w') : RW w' w'.heap.size A c l := h.step b b.size
theorem stp {w w' : World} {A : Option Addr} {c : Nat} {l : List Nat} (h : RW w w.heap.size A c l) (b : Below w.heap.size w w') : RW w' w'.heap.size A c l := st h b
theorem bal (w : World) (o : Obj) : Below w.heap.size w (w.alloc o) := (Below.refl _ _).alloc (Nat.le_refl _) _
/-- a struct's cells in a block -/
def SB (w : World) (b : Nat) (vs : List Value) : Prop := (∀ i v, vs[i]? = some v → w.cell? ⟨b, i, none⟩ = some v ∧ w.frozen? ⟨b, i, none⟩ = false) ∧ b < w.heap.size
theorem SB.new (w : World) (vs : List Value) (t : TypeId) : SB (w.alloc (.cells vs.toArray t)) w.heap.size vs := by
  have h0 := heap_alloc_new w (.cells vs.toArray t)
  refine ⟨fun i v hv => ⟨?_, ?_⟩, by simp⟩
  · rw [cell_of_row _ _ _ _ _ _ h0]; simpa using hv
  · unfold World.frozen?; rw [h0]; rfl
section
variable {w w' : World} {b B : Nat} {vs : List Value}
theorem SB.cell (h : SB w b vs) (i : Nat) {v : Value} (hv : vs[i]? = some v := by rfl) : w.cell? ⟨b, i, none⟩ = some v := (h.1 i v hv).1
theorem SB.frozen (h : SB w b vs) (i : Nat) {v : Value} (hv : vs[i]? = some v := by rfl) : w.frozen? ⟨b, i, none⟩ = false := (h.1 i v hv).2
theorem SB.lt (h : SB w b vs) : b < w.heap.size := h.2
theorem SB.below (h : SB w b vs) (hb : Below B w w') (hB : b < B) : SB w' b vs :=
  ⟨fun i v hv => ⟨(hb.cell hB).trans (h.1 i v hv).1, (hb.frozen hB).trans (h.1 i v hv).2⟩, Nat.lt_of_lt_of_le h.2 hb.size⟩
theorem SB.nx (h : SB w b vs) (hb : Below w.heap.size w w') : SB w' b vs := h.below hb h.2
theorem SB.far (h : SB w b vs) {p : Addr} (hp : b ≠ p.block) (v : Value) : SB (w.setCell p v) b vs :=
  ⟨fun i x hx => ⟨(World.cell?_setCell_other w _ _ v (fun e => hp (by rw [e]))).trans (h.1 i x hx).1, (World.frozen?_setCell w _ _ v).trans (h.1 i x hx).2⟩, by simpa [World.setCell] using h.2⟩
theorem SB.set (h : SB w b vs) (k : Nat) (v : Value) : SB (w.setCell ⟨b, k, none⟩ v) b (vs.set k v) := by
  refine ⟨fun i x hx => ?_, by simpa [World.setCell] using h.2⟩
  rw [List.getElem?_set] at hx
  split at hx
  · rename_i e; subst e
    split at hx
    · rename_i hl
      injection hx with hx; subst hx
      have h0 := h.1 k _ (List.getElem?_eq_getElem hl)
      exact ⟨World.cell?_setCell_same w _ v h0.1, (World.frozen?_setCell w _ _ v).trans h0.2⟩
    · cases hx
  · rename_i e
    exact ⟨(World.cell?_setCell_other w _ _ v (fun e2 => e (by cases e2; rfl))).trans (h.1 i x hx).1, (World.frozen?_setCell w _ _ v).trans (h.1 i x hx).2⟩
end
/-- three cells written -/
abbrev wr3 (w : World) (b : Nat) (x y z : Value) : World := ((w.setCell ⟨b, 0, none⟩ x).setCell ⟨b, 1, none⟩ y).setCell ⟨b, 2, none⟩ z
theorem SB.put3 {w : World} {b : Nat} {a b0 c : Value} (h : SB w b [a, b0, c]) (x y z : Value) : SB (Go.Proofs.Ytabcnpcfknlmlaa.wr3 w b x y z) b [x, y, z] := ((h.set 0 x).set 1 y).set 2 z
theorem put3_below {B b : Nat} {a w : World} (h : Below B a w) (hb : B ≤ b) (x y z : Value) : Below B a (wr3 w b x y z) :=
  ((h.setCell (p := ⟨b, 0, none⟩) hb _).setCell (p := ⟨b, 1, none⟩) hb _).setCell (p := ⟨b, 2, none⟩) hb _
theorem wr3_below {B b : Nat} {a w : World} (h : Below B a w) (hb : B ≤ b) (x y z : Value) : Below B a (wr3 w b x y z) :=
  ((h.setCell (p := ⟨b, 0, none⟩) hb _).setCell (p := ⟨b, 1, none⟩) hb _).setCell (p := ⟨b, 2, none⟩) hb _
theorem OW.put3 {w : World} {base b : Nat} {A : Option Addr} {c : Nat} {l : List Nat} (h : OW w base A c l) (hb : b < base) (x y z : Value) : OW (wr3 w b x y z) base A c l := by
  have hn : ∀ g, A = some ⟨g, 0, none⟩ → g ≠ b := fun g hg => by subst hg; have := h.lt.1; omega
  exact ((h.far (p := ⟨b, 0, none⟩) hn _).far (p := ⟨b, 1, none⟩) hn _).far (p := ⟨b, 2, none⟩) hn _

/-- what a cell holds -/
def cv (w : World) (b i : Nat) : Value := (w.cell? ⟨b, i, none⟩).getD (.bool false)
theorem cv_of {w : World} {b i : Nat} {v : Value} (h : w.cell? ⟨b, i, none⟩ = some v) : w.cell? ⟨b, i, none⟩ = some (cv w b i) := by unfold cv; rw [h]; rfl
/-- a result's n cells stand in block r -/
def RC (w : World) (r n : Nat) : Prop := (∀ i, i < n → w.cell? ⟨r, i, none⟩ = some (cv w r i) ∧ w.frozen? ⟨r, i, none⟩ = false) ∧ r < w.heap.size
theorem RC.cell {w : World} {r n : Nat} (h : RC w r n) (i : Nat) (hi : i < n := by decide) : w.cell? ⟨r, i, none⟩ = some (cv w r i) := (h.1 i hi).1
theorem RC.frozen {w : World} {r n : Nat} (h : RC w r n) (i : Nat) (hi : i < n := by decide) : w.frozen? ⟨r, i, none⟩ = false := (h.1 i hi).2
theorem SB.rc {w : World} {b : Nat} {vs : List Value} (h : SB w b vs) {n : Nat} (hn : n = vs.length := by rfl) : RC w b n :=
  ⟨fun i hi => ⟨cv_of (h.1 i _ (List.getElem?_eq_getElem (by omega))).1, (h.1 i _ (List.getElem?_eq_getElem (by omega))).2⟩, h.2⟩
theorem RC.sb {w : World} {r n : Nat} (h : RC w r n) : SB w r ((List.range n).map (cv w r)) := by
  refine ⟨fun i v hv => ?_, h.2⟩
  rw [List.getElem?_map] at hv
  obtain ⟨k, hk, rfl⟩ := Option.map_eq_some_iff.1 hv
  rw [List.getElem?_eq_some_iff] at hk
  obtain ⟨hl, rfl⟩ := hk
  rw [List.length_range] at hl
  rw [List.getElem_range]
  exact h.1 i hl
theorem RC.nx {w w' : World} {r n : Nat} (h : RC w r n) (hb : Below w.heap.size w w') : RC w' r n := (h.sb.nx hb).rc (by simp)
theorem RC.put3 {w : World} {r : Nat} (h : RC w r 3) (x y z : Value) : SB (wr3 w r x y z) r [x, y, z] := SB.put3 (a := cv w r 0) (b0 := cv w r 1) (c := cv w r 2) h.sb x y z
/-- six cells written -/
abbrev wr6 (w : World) (b : Nat) (x y z x' y' z' : Value) : World := (((wr3 w b x y z).setCell ⟨b, 3, none⟩ x').setCell ⟨b, 4, none⟩ y').setCell ⟨b, 5, none⟩ z'
theorem wr6_below {B b : Nat} {a w : World} (h : Below B a w) (hb : B ≤ b) (x y z x' y' z' : Value) : Below B a (wr6 w b x y z x' y' z') :=
  (((wr3_below h hb x y z).setCell (p := ⟨b, 3, none⟩) hb _).setCell (p := ⟨b, 4, none⟩) hb _).setCell (p := ⟨b, 5, none⟩) hb _
theorem OW.put6 {w : World} {base b : Nat} {A : Option Addr} {c : Nat} {l : List Nat} (h : OW w base A c l) (hb : b < base) (x y z x' y' z' : Value) : OW (wr6 w b x y z x' y' z') base A c l := by
  have hn : ∀ g, A = some ⟨g, 0, none⟩ → g ≠ b := fun g hg => by subst hg; have := h.lt.1; omega
  exact (((h.put3 hb x y z).far (p := ⟨b, 3, none⟩) hn _).far (p := ⟨b, 4, none⟩) hn _).far (p := ⟨b, 5, none⟩) hn _
theorem RC.put6 {w : World} {r : Nat} (h : RC w r 6) (x y z x' y' z' : Value) : SB (wr6 w r x y z x' y' z') r [x, y, z, x', y', z'] :=
  ((((((show SB w r [cv w r 0, cv w r 1, cv w r 2, cv w r 3, cv w r 4, cv w r 5] from h.sb).set 0 x).set 1 y).set 2 z).set 3 x').set 4 y').set 5 z'
theorem infoN : (Try.prog.info? 27).map (·.size) = some 6 := by kernel_rfl
/-- a number stored into a result's cells, as one step -/
theorem wp_st6 {ops : Array Oper} {rest : List Oper} {o : Oper} {a : Act} {w : World} {Q : Exit → Act → World → Prop} (hgd : o.guard = none) (x y : Operand) (ho : o.op = .store 27 x y)
    (b : Nat) (hx : a.eval x = .pointer (some ⟨b, 0, none⟩)) (x0 x1 x2 x3 x4 x5 : Value) (hy : a.eval y = .agg #[x0, x1, x2, x3, x4, x5]) (hc : RC w b 6) (g0 : x0.oneCell' = true) (g1 : x1.oneCell' = true) (g2 : x2.oneCell' = true) (g3 : x3.oneCell' = true) (g4 : x4.oneCell' = true) (g5 : x5.oneCell' = true)
    (h : wpList Try.prog ops Q rest (a.put o.dst undef) (wr6 w b x0 x1 x2 x3 x4 x5)) : wpList Try.prog ops Q (o :: rest) a w :=
  wpList_store_mid hgd 27 x y ho b 0 #[x0, x1, x2, x3, x4, x5] hx hy
    (fun j hj => by
      have h2 := hc.1 j hj
      rw [Nat.zero_add]
      exact ⟨by rw [h2.1]; rfl, h2.2⟩) infoN (all_oneCell_toArray (cs := [x0, x1, x2, x3, x4, x5]) (fun v hv => by
        simp only [List.mem_cons, List.not_mem_nil, or_false] at hv
        rcases hv with rfl | rfl | rfl | rfl | rfl | rfl <;> assumption)) h
/-- what a region keeps: one struct and a result's cells -/
def S2 (w : World) (b : Nat) (l1 : List Value) (n : Nat) (w' : World) : Prop := SB w' b l1 ∧ RC w' (b + 1) n ∧ Below b w w'
theorem S2.nx {w w1 w2 : World} {b n : Nat} {l1 : List Value} (h : S2 w b l1 n w1) (hb : Below w1.heap.size w1 w2) : S2 w b l1 n w2 :=
  ⟨h.1.nx hb, h.2.1.nx hb, h.2.2.trans (hb.mono (Nat.le_of_lt h.1.2))⟩
theorem S2.dr {w w1 : World} {b n : Nat} {l1 : List Value} (h : S2 w b l1 n w1) : S2 w b l1 n w1.drew := ⟨h.1, h.2.1, bdN h.2.2 1⟩
theorem SB.wr3 {w : World} {b r : Nat} {l : List Value} (h : SB w b l) (hb : b ≠ r) (x y z : Value) : SB (wr3 w r x y z) b l :=
  ((h.far (p := ⟨r, 0, none⟩) hb x).far (p := ⟨r, 1, none⟩) hb y).far (p := ⟨r, 2, none⟩) hb z
theorem SB.wr6 {w : World} {b r : Nat} {l : List Value} (h : SB w b l) (hb : b ≠ r) (x y z x' y' z' : Value) : SB (wr6 w r x y z x' y' z') b l :=
  (((h.wr3 hb x y z).far (p := ⟨r, 3, none⟩) hb x').far (p := ⟨r, 4, none⟩) hb y').far (p := ⟨r, 5, none⟩) hb z'
theorem S2.put {w w1 : World} {b : Nat} {l1 : List Value} (h : S2 w b l1 3 w1) (x y z : Value) : S2 w b l1 3 (Go.Proofs.Ytabcnpcfknlmlaa.wr3 w1 (b + 1) x y z) :=
  ⟨h.1.wr3 (by omega) x y z, (h.2.1.put3 x y z).rc, wr3_below h.2.2 (by omega) x y z⟩
theorem S2.put6 {w w1 : World} {b : Nat} {l1 : List Value} (h : S2 w b l1 6 w1) (x y z x' y' z' : Value) : S2 w b l1 6 (Go.Proofs.Ytabcnpcfknlmlaa.wr6 w1 (b + 1) x y z x' y' z') :=
  ⟨h.1.wr6 (by omega) x y z x' y' z', (h.2.1.put6 x y z x' y' z').rc, wr6_below h.2.2 (by omega) x y z x' y' z'⟩
theorem S2.new (w : World) (l1 l3 : List Value) (t1 t3 : TypeId) (n : Nat) (hn : n = l3.length := by rfl) : S2 w w.heap.size l1 n ((w.alloc (.cells l1.toArray t1)).alloc (.cells l3.toArray t3)) := by
  have z1 : (w.alloc (.cells l1.toArray t1)).heap.size = w.heap.size + 1 := by simp
  have s1 := SB.new w l1 t1
  have s3 := SB.new (w.alloc (.cells l1.toArray t1)) l3 t3
  rw [z1] at s3
  have B1 := bal w (.cells l1.toArray t1)
  have B3 := bal (w.alloc (.cells l1.toArray t1)) (.cells l3.toArray t3)
  exact ⟨s1.nx B3, s3.rc hn, bt B1 B3⟩
/-- what a region keeps: two structs and a result's cells -/
def S3 (w : World) (b : Nat) (l1 l2 : List Value) (n : Nat) (w' : World) : Prop := SB w' b l1 ∧ SB w' (b + 1) l2 ∧ RC w' (b + 2) n ∧ Below b w w'
theorem S3.nx {w w1 w2 : World} {b n : Nat} {l1 l2 : List Value} (h : S3 w b l1 l2 n w1) (hb : Below w1.heap.size w1 w2) : S3 w b l1 l2 n w2 :=
  ⟨h.1.nx hb, h.2.1.nx hb, h.2.2.1.nx hb, h.2.2.2.trans (hb.mono (Nat.le_of_lt h.1.2))⟩
theorem S3.put {w w1 : World} {b : Nat} {l1 l2 : List Value} (h : S3 w b l1 l2 3 w1) (x y z : Value) : S3 w b l1 l2 3 (wr3 w1 (b + 2) x y z) :=
  ⟨((h.1.far (p := ⟨b + 2, 0, none⟩) (by simp) x).far (p := ⟨b + 2, 1, none⟩) (by simp) y).far (p := ⟨b + 2, 2, none⟩) (by simp) z,
   ((h.2.1.far (p := ⟨b + 2, 0, none⟩) (by simp) x).far (p := ⟨b + 2, 1, none⟩) (by simp) y).far (p := ⟨b + 2, 2, none⟩) (by simp) z,
   (h.2.2.1.put3 x y z).rc, wr3_below h.2.2.2 (by omega) x y z⟩
theorem S3.dr {w w1 : World} {b n : Nat} {l1 l2 : List Value} (h : S3 w b l1 l2 n w1) : S3 w b l1 l2 n w1.drew := ⟨h.1, h.2.1, h.2.2.1, bdN h.2.2.2 1⟩
theorem S3.new (w : World) (l1 l2 l3 : List Value) (t1 t2 t3 : TypeId) (n : Nat) (hn : n = l3.length := by rfl) : S3 w w.heap.size l1 l2 n (((w.alloc (.cells l1.toArray t1)).alloc (.cells l2.toArray t2)).alloc (.cells l3.toArray t3)) := by
  have z1 : (w.alloc (.cells l1.toArray t1)).heap.size = w.heap.size + 1 := by simp
  have z2 : ((w.alloc (.cells l1.toArray t1)).alloc (.cells l2.toArray t2)).heap.size = w.heap.size + 2 := by simp
  have s1 := SB.new w l1 t1
  have s2 := SB.new (w.alloc (.cells l1.toArray t1)) l2 t2
  have s3 := SB.new ((w.alloc (.cells l1.toArray t1)).alloc (.cells l2.toArray t2)) l3 t3
  rw [z1] at s2
  rw [z2] at s3
  have B1 := bal w (.cells l1.toArray t1)
  have B2 := bal (w.alloc (.cells l1.toArray t1)) (.cells l2.toArray t2)
  have B3 := bal ((w.alloc (.cells l1.toArray t1)).alloc (.cells l2.toArray t2)) (.cells l3.toArray t3)
  exact ⟨(s1.nx B2).nx B3, s2.nx B3, s3.rc hn, bt (bt B1 B2) B3⟩

/-- a fraction's value -/
def fq (q : Rat) (A : Option Addr) (c : Nat) (D : Option Addr) (d : Nat) : Value := .agg #[.bool (qn q), .slice A (digs (qt q)).length c, .slice D (digs (qd q)).length d]
/-- it can be read -/
def RQ (w : World) (B : Nat) (v : Value) (q : Rat) : Prop := ∃ A c D d, v = .agg #[.bool (qn q), .slice A (digs (qt q)).length c, .slice D (digs (qd q)).length d] ∧ RW w B A c (digs (qt q)) ∧ RW w B D d (digs (qd q))
/-- it is the call's own -/
def OQ (w : World) (base : Nat) (v : Value) (q : Rat) : Prop := ∃ A c D d, v = .agg #[.bool (qn q), .slice A (digs (qt q)).length c, .slice D (digs (qd q)).length d] ∧ OW w base A c (digs (qt q)) ∧ OW w base D d (digs (qd q))
section
variable {w w' : World} {B B' base b : Nat} {v : Value} {q : Rat}
theorem RQ.step (h : RQ w B v q) (hb : Below B w w') (hB : B ≤ B') : RQ w' B' v q := by
  obtain ⟨A, c, D, d, e, h1, h2⟩ := h
  exact ⟨A, c, D, d, e, h1.step hb hB, h2.step hb hB⟩
theorem RQ.more (h : RQ w B v q) (hB : B ≤ B') : RQ w B' v q := h.step (Below.refl _ _) hB
theorem RQ.st (h : RQ w w.heap.size v q) (hb : Below w.heap.size w w') : RQ w' w'.heap.size v q := h.step hb hb.size
theorem OQ.rq (h : OQ w base v q) : RQ w w.heap.size v q := by
  obtain ⟨A, c, D, d, e, h1, h2⟩ := h
  exact ⟨A, c, D, d, e, h1.rw, h2.rw⟩
theorem OQ.base_le (h : OQ w base v q) (hb : B ≤ base) : OQ w B v q := by
  obtain ⟨A, c, D, d, e, h1, h2⟩ := h
  exact ⟨A, c, D, d, e, h1.base_le hb, h2.base_le hb⟩
theorem OQ.below (h : OQ w base v q) (hb : Below B w w') (hB : w.heap.size ≤ B) : OQ w' base v q := by
  obtain ⟨A, c, D, d, e, h1, h2⟩ := h
  exact ⟨A, c, D, d, e, h1.below hb hB, h2.below hb hB⟩
theorem OQ.put3 (h : OQ w base v q) (hb : b < base) (x y z : Value) : OQ (wr3 w b x y z) base v q := by
  obtain ⟨A, c, D, d, e, h1, h2⟩ := h
  exact ⟨A, c, D, d, e, h1.put3 hb .., h2.put3 hb ..⟩
end
/-- an answer: a fraction of the call's own -/
def RetR (w : World) (q : Rat) (e : Ending) (w' : World) : Prop := ∃ A c D d, e = .returned (.agg #[.bool (qn q), .slice A (digs (qt q)).length c, .slice D (digs (qd q)).length d]) ∧ OW w' w.heap.size A c (digs (qt q)) ∧ OW w' w.heap.size D d (digs (qd q)) ∧ Below w.heap.size w w'
end Go.Proofs.Ytabcnpcfknlmlaa
