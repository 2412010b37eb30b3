/- Merged texts: Rat, RatA, PlainH, NRef, NRefO. -/
import Derived.Test.YtbgggepdlkbpoaaGreatDoorGD
import Derived.Deep.RegionHeld3
import Derived.Deep.DeepCutAuto
import Derived.Deep.MidRow
import Derived.Test.YtbgggepdlkbpoaaGreatDoorGB
namespace Go.Proofs.YtbgggepdlkbpoaaGreatDoor
open Go.RowKit

theorem bt {w w1 w2 : World} (h1 : Below w.heap.size w w1) (h2 : Below w1.heap.size w1 w2) : Below w.heap.size w w2 := h1.trans (h2.mono h1.size)
theorem st {w w' : World} {A : Option Addr} {c : Nat} {l : List Nat} (h : RW w w.heap.size A c l) (b : Below w.heap.size w w') : RW w' w'.heap.size A c l := h.step b b.size
theorem stp {w w' : World} {A : Option Addr} {c : Nat} {l : List Nat} (h : RW w w.heap.size A c l) (b : Below w.heap.size w w') : RW w' w'.heap.size A c l := st h b
theorem bal (w : World) (o : Obj) : Below w.heap.size w (w.alloc o) := (Below.refl _ _).alloc (Nat.le_refl _) _
/-- a struct's cells in a block -/
def SB (w : World) (b : Nat) (vs : List Value) : Prop := (∀ i v, vs[i]? = some v → w.cell? ⟨b, i, none⟩ = some v ∧ w.frozen? ⟨b, i, none⟩ = false) ∧ b < w.heap.size
theorem SB.new (w : World) (vs : List Value) (t : TypeId) : SB (w.alloc (.cells vs.toArray t)) w.heap.size vs := by
  have h0 := heap_alloc_new w (.cells vs.toArray t)
  refine ⟨fun i v hv => ⟨?_, ?_⟩, by simp⟩
  · rw [cell_of_row _ _ _ _ _ _ h0]; simpa using hv
  · unfold World.frozen?; rw [h0]; rfl
section
variable {w w' : World} {b B : Nat} {vs : List Value}
theorem SB.cell (h : SB w b vs) (i : Nat) {v : Value} (hv : vs[i]? = some v := by rfl) : w.cell? ⟨b, i, none⟩ = some v := (h.1 i v hv).1
theorem SB.frozen (h : SB w b vs) (i : Nat) {v : Value} (hv : vs[i]? = some v := by rfl) : w.frozen? ⟨b, i, none⟩ = false := (h.1 i v hv).2
theorem SB.lt (h : SB w b vs) : b < w.heap.size := h.2
theorem SB.below (h : SB w b vs) (hb : Below B w w') (hB : b < B) : SB w' b vs :=
  ⟨fun i v hv => ⟨(hb.cell hB).trans (h.1 i v hv).1, (hb.frozen hB).trans (h.1 i v hv).2⟩, Nat.lt_of_lt_of_le h.2 hb.size⟩
theorem SB.nx (h : SB w b vs) (hb : Below w.heap.size w w') : SB w' b vs := h.below hb h.2
theorem SB.far (h : SB w b vs) {p : Addr} (hp : b ≠ p.block) (v : Value) : SB (w.setCell p v) b vs :=
  ⟨fun i x hx => ⟨(World.cell?_setCell_other w _ _ v (fun e => hp (by rw [e]))).trans (h.1 i x hx).1, (World.frozen?_setCell w _ _ v).trans (h.1 i x hx).2⟩, by simpa [World.setCell] using h.2⟩
theorem SB.set (h : SB w b vs) (k : Nat) (v : Value) : SB (w.setCell ⟨b, k, none⟩ v) b (vs.set k v) := by
  refine ⟨fun i x hx => ?_, by simpa [World.setCell] using h.2⟩
  rw [List.getElem?_set] at hx
  split at hx
  · rename_i e; subst e
    split at hx
    · rename_i hl
      injection hx with hx; subst hx
      have h0 := h.1 k _ (List.getElem?_eq_getElem hl)
      exact ⟨World.cell?_setCell_same w _ v h0.1, (World.frozen?_setCell w _ _ v).trans h0.2⟩
    · cases hx
  · rename_i e
    exact ⟨(World.cell?_setCell_other w _ _ v (fun e2 => e (by cases e2; rfl))).trans (h.1 i x hx).1, (World.frozen?_setCell w _ _ v).trans (h.1 i x hx).2⟩
end
/-- three cells written -/
abbrev wr3 (w : World) (b : Nat) (x y z : Value) : World := ((w.setCell ⟨b, 0, none⟩ x).setCell ⟨b, 1, none⟩ y).setCell ⟨b, 2, none⟩ z
theorem SB.put3 {w : World} {b : Nat} {a b0 c : Value} (h : SB w b [a, b0, c]) (x y z : Value) : SB (Go.Proofs.YtbgggepdlkbpoaaGreatDoor.wr3 w b x y z) b [x, y, z] := ((h.set 0 x).set 1 y).set 2 z
theorem put3_below {B b : Nat} {a w : World} (h : Below B a w) (hb : B ≤ b) (x y z : Value) : Below B a (wr3 w b x y z) :=
  ((h.setCell (p := ⟨b, 0, none⟩) hb _).setCell (p := ⟨b, 1, none⟩) hb _).setCell (p := ⟨b, 2, none⟩) hb _
theorem wr3_below {B b : Nat} {a w : World} (h : Below B a w) (hb : B ≤ b) (x y z : Value) : Below B a (wr3 w b x y z) :=
  ((h.setCell (p := ⟨b, 0, none⟩) hb _).setCell (p := ⟨b, 1, none⟩) hb _).setCell (p := ⟨b, 2, none⟩) hb _
theorem OW.put3 {w : World} {base b : Nat} {A : Option Addr} {c : Nat} {l : List Nat} (h : OW w base A c l) (hb : b < base) (x y z : Value) : OW (wr3 w b x y z) base A c l := by
  have hn : ∀ g, A = some ⟨g, 0, none⟩ → g ≠ b := fun g hg => by subst hg; have := h.lt.1; omega
  exact ((h.far (p := ⟨b, 0, none⟩) hn _).far (p := ⟨b, 1, none⟩) hn _).far (p := ⟨b, 2, none⟩) hn _

/-- what a cell holds -/
def cv (w : World) (b i : Nat) : Value := (w.cell? ⟨b, i, none⟩).getD (.bool false)
theorem cv_of {w : World} {b i : Nat} {v : Value} (h : w.cell? ⟨b, i, none⟩ = some v) : w.cell? ⟨b, i, none⟩ = some (cv w b i) := by unfold cv; rw [h]; rfl
/-- a result's n cells stand in block r -/
def RC (w : World) (r n : Nat) : Prop := (∀ i, i < n → w.cell? ⟨r, i, none⟩ = some (cv w r i) ∧ w.frozen? ⟨r, i, none⟩ = false) ∧ r < w.heap.size
theorem RC.cell {w : World} {r n : Nat} (h : RC w r n) (i : Nat) (hi : i < n := by decide) : w.cell? ⟨r, i, none⟩ = some (cv w r i) := (h.1 i hi).1
theorem RC.frozen {w : World} {r n : Nat} (h : RC w r n) (i : Nat) (hi : i < n := by decide) : w.frozen? ⟨r, i, none⟩ = false := (h.1 i hi).2
theorem SB.rc {w : World} {b : Nat} {vs : List Value} (h : SB w b vs) {n : Nat} (hn : n = vs.length := by rfl) : RC w b n :=
  ⟨fun i hi => ⟨cv_of (h.1 i _ (List.getElem?_eq_getElem (by omega))).1, (h.1 i _ (List.getElem?_eq_getElem (by omega))).2⟩, h.2⟩
theorem RC.sb {w : World} {r n : Nat} (h : RC w r n) : SB w r ((List.range n).map (cv w r)) := by
  refine ⟨fun i v hv => ?_, h.2⟩
  rw [List.getElem?_map] at hv
  obtain ⟨k, hk, rfl⟩ := Option.map_eq_some_iff.1 hv
  rw [List.getElem?_eq_some_iff] at hk
  obtain ⟨hl, rfl⟩ := hk
  rw [List.length_range] at hl
  rw [List.getElem_range]
  exact h.1 i hl
theorem RC.nx {w w' : World} {r n : Nat} (h : RC w r n) (hb : Below w.heap.size w w') : RC w' r n := (h.sb.nx hb).rc (by simp)
theorem RC.put3 {w : World} {r : Nat} (h : RC w r 3) (x y z : Value) : SB (wr3 w r x y z) r [x, y, z] := SB.put3 (a := cv w r 0) (b0 := cv w r 1) (c := cv w r 2) h.sb x y z
/-- six cells written -/
abbrev wr6 (w : World) (b : Nat) (x y z x' y' z' : Value) : World := (((wr3 w b x y z).setCell ⟨b, 3, none⟩ x').setCell ⟨b, 4, none⟩ y').setCell ⟨b, 5, none⟩ z'
theorem wr6_below {B b : Nat} {a w : World} (h : Below B a w) (hb : B ≤ b) (x y z x' y' z' : Value) : Below B a (wr6 w b x y z x' y' z') :=
  (((wr3_below h hb x y z).setCell (p := ⟨b, 3, none⟩) hb _).setCell (p := ⟨b, 4, none⟩) hb _).setCell (p := ⟨b, 5, none⟩) hb _
theorem OW.put6 {w : World} {base b : Nat} {A : Option Addr} {c : Nat} {l : List Nat} (h : OW w base A c l) (hb : b < base) (x y z x' y' z' : Value) : OW (wr6 w b x y z x' y' z') base A c l := by
  have hn : ∀ g, A = some ⟨g, 0, none⟩ → g ≠ b := fun g hg => by subst hg; have := h.lt.1; omega
  exact (((h.put3 hb x y z).far (p := ⟨b, 3, none⟩) hn _).far (p := ⟨b, 4, none⟩) hn _).far (p := ⟨b, 5, none⟩) hn _
theorem RC.put6 {w : World} {r : Nat} (h : RC w r 6) (x y z x' y' z' : Value) : SB (wr6 w r x y z x' y' z') r [x, y, z, x', y', z'] :=
  ((((((show SB w r [cv w r 0, cv w r 1, cv w r 2, cv w r 3, cv w r 4, cv w r 5] from h.sb).set 0 x).set 1 y).set 2 z).set 3 x').set 4 y').set 5 z'
theorem infoN : (Tryz.prog.info? 26).map (·.size) = some 6 := by kernel_rfl
/-- a number stored into a result's cells, as one step -/
theorem wp_st6 {ops : Array Oper} {rest : List Oper} {o : Oper} {a : Act} {w : World} {Q : Exit → Act → World → Prop} (hgd : o.guard = none) (x y : Operand) (ho : o.op = .store 26 x y)
    (b : Nat) (hx : a.eval x = .pointer (some ⟨b, 0, none⟩)) (x0 x1 x2 x3 x4 x5 : Value) (hy : a.eval y = .agg #[x0, x1, x2, x3, x4, x5]) (hc : RC w b 6) (g0 : x0.oneCell' = true) (g1 : x1.oneCell' = true) (g2 : x2.oneCell' = true) (g3 : x3.oneCell' = true) (g4 : x4.oneCell' = true) (g5 : x5.oneCell' = true)
    (h : wpList Tryz.prog ops Q rest (a.put o.dst undef) (wr6 w b x0 x1 x2 x3 x4 x5)) : wpList Tryz.prog ops Q (o :: rest) a w :=
  wpList_store_mid hgd 26 x y ho b 0 #[x0, x1, x2, x3, x4, x5] hx hy
    (fun j hj => by
      have h2 := hc.1 j hj
      rw [Nat.zero_add]
      exact ⟨by rw [h2.1]; rfl, h2.2⟩) infoN (all_oneCell_toArray (cs := [x0, x1, x2, x3, x4, x5]) (fun v hv => by
        simp only [List.mem_cons, List.not_mem_nil, or_false] at hv
        rcases hv with rfl | rfl | rfl | rfl | rfl | rfl <;> assumption)) h
/-- what a region keeps: one struct and a result's cells -/
def S2 (w : World) (b : Nat) (l1 : List Value) (n : Nat) (w' : World) : Prop := SB w' b l1 ∧ RC w' (b + 1) n ∧ Below b w w'
theorem S2.nx {w w1 w2 : World} {b n : Nat} {l1 : List Value} (h : S2 w b l1 n w1) (hb : Below w1.heap.size w1 w2) : S2 w b l1 n w2 :=
  ⟨h.1.nx hb, h.2.1.nx hb, h.2.2.trans (hb.mono (Nat.le_of_lt h.1.2))⟩
theorem S2.dr {w w1 : World} {b n : Nat} {l1 : List Value} (h : S2 w b l1 n w1) : S2 w b l1 n w1.drew := ⟨h.1, h.2.1, bdN h.2.2 1⟩
theorem SB.wr3 {w : World} {b r : Nat} {l : List Value} (h : SB w b l) (hb : b ≠ r) (x y z : Value) : SB (wr3 w r x y z) b l :=
  ((h.far (p := ⟨r, 0, none⟩) hb x).far (p := ⟨r, 1, none⟩) hb y).far (p := ⟨r, 2, none⟩) hb z
theorem SB.wr6 {w : World} {b r : Nat} {l : List Value} (h : SB w b l) (hb : b ≠ r) (x y z x' y' z' : Value) : SB (wr6 w r x y z x' y' z') b l :=
  (((h.wr3 hb x y z).far (p := ⟨r, 3, none⟩) hb x').far (p := ⟨r, 4, none⟩) hb y').far (p := ⟨r, 5, none⟩) hb z'
theorem S2.put {w w1 : World} {b : Nat} {l1 : List Value} (h : S2 w b l1 3 w1) (x y z : Value) : S2 w b l1 3 (Go.Proofs.YtbgggepdlkbpoaaGreatDoor.wr3 w1 (b + 1) x y z) :=
  ⟨h.1.wr3 (by omega) x y z, (h.2.1.put3 x y z).rc, wr3_below h.2.2 (by omega) x y z⟩
theorem S2.put6 {w w1 : World} {b : Nat} {l1 : List Value} (h : S2 w b l1 6 w1) (x y z x' y' z' : Value) : S2 w b l1 6 (Go.Proofs.YtbgggepdlkbpoaaGreatDoor.wr6 w1 (b + 1) x y z x' y' z') :=
  ⟨h.1.wr6 (by omega) x y z x' y' z', (h.2.1.put6 x y z x' y' z').rc, wr6_below h.2.2 (by omega) x y z x' y' z'⟩
theorem S2.new (w : World) (l1 l3 : List Value) (t1 t3 : TypeId) (n : Nat) (hn : n = l3.length := by rfl) : S2 w w.heap.size l1 n ((w.alloc (.cells l1.toArray t1)).alloc (.cells l3.toArray t3)) := by
  have z1 : (w.alloc (.cells l1.toArray t1)).heap.size = w.heap.size + 1 := by simp
  have s1 := SB.new w l1 t1
  have s3 := SB.new (w.alloc (.cells l1.toArray t1)) l3 t3
  rw [z1] at s3
  have B1 := bal w (.cells l1.toArray t1)
  have B3 := bal (w.alloc (.cells l1.toArray t1)) (.cells l3.toArray t3)
  exact ⟨s1.nx B3, s3.rc hn, bt B1 B3⟩
/-- what a region keeps: two structs and a result's cells -/
def S3 (w : World) (b : Nat) (l1 l2 : List Value) (n : Nat) (w' : World) : Prop := SB w' b l1 ∧ SB w' (b + 1) l2 ∧ RC w' (b + 2) n ∧ Below b w w'
theorem S3.nx {w w1 w2 : World} {b n : Nat} {l1 l2 : List Value} (h : S3 w b l1 l2 n w1) (hb : Below w1.heap.size w1 w2) : S3 w b l1 l2 n w2 :=
  ⟨h.1.nx hb, h.2.1.nx hb, h.2.2.1.nx hb, h.2.2.2.trans (hb.mono (Nat.le_of_lt h.1.2))⟩
theorem S3.put {w w1 : World} {b : Nat} {l1 l2 : List Value} (h : S3 w b l1 l2 3 w1) (x y z : Value) : S3 w b l1 l2 3 (wr3 w1 (b + 2) x y z) :=
  ⟨((h.1.far (p := ⟨b + 2, 0, none⟩) (by simp) x).far (p := ⟨b + 2, 1, none⟩) (by simp) y).far (p := ⟨b + 2, 2, none⟩) (by simp) z,
   ((h.2.1.far (p := ⟨b + 2, 0, none⟩) (by simp) x).far (p := ⟨b + 2, 1, none⟩) (by simp) y).far (p := ⟨b + 2, 2, none⟩) (by simp) z,
   (h.2.2.1.put3 x y z).rc, wr3_below h.2.2.2 (by omega) x y z⟩
theorem S3.dr {w w1 : World} {b n : Nat} {l1 l2 : List Value} (h : S3 w b l1 l2 n w1) : S3 w b l1 l2 n w1.drew := ⟨h.1, h.2.1, h.2.2.1, bdN h.2.2.2 1⟩
theorem S3.new (w : World) (l1 l2 l3 : List Value) (t1 t2 t3 : TypeId) (n : Nat) (hn : n = l3.length := by rfl) : S3 w w.heap.size l1 l2 n (((w.alloc (.cells l1.toArray t1)).alloc (.cells l2.toArray t2)).alloc (.cells l3.toArray t3)) := by
  have z1 : (w.alloc (.cells l1.toArray t1)).heap.size = w.heap.size + 1 := by simp
  have z2 : ((w.alloc (.cells l1.toArray t1)).alloc (.cells l2.toArray t2)).heap.size = w.heap.size + 2 := by simp
  have s1 := SB.new w l1 t1
  have s2 := SB.new (w.alloc (.cells l1.toArray t1)) l2 t2
  have s3 := SB.new ((w.alloc (.cells l1.toArray t1)).alloc (.cells l2.toArray t2)) l3 t3
  rw [z1] at s2
  rw [z2] at s3
  have B1 := bal w (.cells l1.toArray t1)
  have B2 := bal (w.alloc (.cells l1.toArray t1)) (.cells l2.toArray t2)
  have B3 := bal ((w.alloc (.cells l1.toArray t1)).alloc (.cells l2.toArray t2)) (.cells l3.toArray t3)
  exact ⟨(s1.nx B2).nx B3, s2.nx B3, s3.rc hn, bt (bt B1 B2) B3⟩

/-- a fraction's value -/
def fq (q : Rat) (A : Option Addr) (c : Nat) (D : Option Addr) (d : Nat) : Value := .agg #[.bool (qn q), .slice A (digs (qt q)).length c, .slice D (digs (qd q)).length d]
/-- it can be read -/
def RQ (w : World) (B : Nat) (v : Value) (q : Rat) : Prop := ∃ A c D d, v = .agg #[.bool (qn q), .slice A (digs (qt q)).length c, .slice D (digs (qd q)).length d] ∧ RW w B A c (digs (qt q)) ∧ RW w B D d (digs (qd q))
/-- it is the call's own -/
def OQ (w : World) (base : Nat) (v : Value) (q : Rat) : Prop := ∃ A c D d, v = .agg #[.bool (qn q), .slice A (digs (qt q)).length c, .slice D (digs (qd q)).length d] ∧ OW w base A c (digs (qt q)) ∧ OW w base D d (digs (qd q))
section
variable {w w' : World} {B B' base b : Nat} {v : Value} {q : Rat}
theorem RQ.step (h : RQ w B v q) (hb : Below B w w') (hB : B ≤ B') : RQ w' B' v q := by
  obtain ⟨A, c, D, d, e, h1, h2⟩ := h
  exact ⟨A, c, D, d, e, h1.step hb hB, h2.step hb hB⟩
theorem RQ.more (h : RQ w B v q) (hB : B ≤ B') : RQ w B' v q := h.step (Below.refl _ _) hB
theorem RQ.st (h : RQ w w.heap.size v q) (hb : Below w.heap.size w w') : RQ w' w'.heap.size v q := h.step hb hb.size
theorem OQ.rq (h : OQ w base v q) : RQ w w.heap.size v q := by
  obtain ⟨A, c, D, d, e, h1, h2⟩ := h
  exact ⟨A, c, D, d, e, h1.rw, h2.rw⟩
theorem OQ.base_le (h : OQ w base v q) (hb : B ≤ base) : OQ w B v q := by
  obtain ⟨A, c, D, d, e, h1, h2⟩ := h
  exact ⟨A, c, D, d, e, h1.base_le hb, h2.base_le hb⟩
theorem OQ.below (h : OQ w base v q) (hb : Below B w w') (hB : w.heap.size ≤ B) : OQ w' base v q := by
  obtain ⟨A, c, D, d, e, h1, h2⟩ := h
  exact ⟨A, c, D, d, e, h1.below hb hB, h2.below hb hB⟩
theorem OQ.put3 (h : OQ w base v q) (hb : b < base) (x y z : Value) : OQ (wr3 w b x y z) base v q := by
  obtain ⟨A, c, D, d, e, h1, h2⟩ := h
  exact ⟨A, c, D, d, e, h1.put3 hb .., h2.put3 hb ..⟩
end
/-- an answer: a fraction of the call's own -/
def RetR (w : World) (q : Rat) (e : Ending) (w' : World) : Prop := ∃ A c D d, e = .returned (.agg #[.bool (qn q), .slice A (digs (qt q)).length c, .slice D (digs (qd q)).length d]) ∧ OW w' w.heap.size A c (digs (qt q)) ∧ OW w' w.heap.size D d (digs (qd q)) ∧ Below w.heap.size w w'
end Go.Proofs.YtbgggepdlkbpoaaGreatDoor
namespace Go.Proofs.YtbgggepdlkbpoaaGreatDoor
open Go.RowKit
theorem cmpN_ge {X Y : Nat} (h : Y ≤ X) : 0 ≤ cmpN X Y := by
  unfold cmpN
  rw [if_neg (by omega)]
  split <;> omega
theorem digs_pos_iff {n : Nat} : (decide (0 < n)) = decide (0 < (digs n).length) := by
  rw [decide_eq_decide, Nat.pos_iff_ne_zero, Nat.pos_iff_ne_zero, ne_eq, ne_eq, digs_len0]

set_option maxHeartbeats 1000000 in
theorem rat_any (neg : Bool) (A D : Option Addr) (c d n m : Nat) (a b : List Nat) (w : World) (hn : n = a.length) (hm : m = b.length) (ha : RW w w.heap.size A c a) (hb : RW w w.heap.size D d b) (na : Nrm a) (nb : Nrm b) (h0 : val b ≠ 0)
    (hla : a.length ≤ 15000) (hlb : b.length ≤ 15000) :
    Calls Tryz.prog 55 #[.bool neg, .slice A n c, .slice D m d] w (RetR w (ratN neg (val a) (val b))) := by
  subst hn hm
  have B1 := bal w (.cells #[.bool false, .slice none 0 0, .slice none 0 0] 24)
  have s1 := SB.new w [.bool false, .slice none 0 0, .slice none 0 0] 24
  obtain ⟨g, hg⟩ : ∃ g, g = Nat.gcd (val a) (val b) := ⟨_, rfl⟩
  have hd := divisor_any A D c d _ _ a b _ rfl rfl (st ha B1) (st hb B1) na nb (by omega) (by omega)
  rw [← hg] at hd
  have hg0 : val (digs g) ≠ 0 := by rw [val_digs, hg]; exact Nat.gcd_ne_zero_right h0
  have hlg : (digs g).length ≤ 1000000 := by
    have := digs_mono (Nat.le_of_dvd (Nat.pos_of_ne_zero h0) (Nat.gcd_dvd_right (val a) (val b)))
    rw [digs_val hb.b32 nb, ← hg] at this
    omega
  have hq := ratN_facts neg (val a) (val b) h0
  rw [← hg] at hq
  clear hg
  obtain ⟨t, ht⟩ : ∃ t, t = val a / g := ⟨_, rfl⟩
  obtain ⟨u, hu⟩ : ∃ u, u = val b / g := ⟨_, rfl⟩
  rw [← ht, ← hu] at hq
  have HT := Lib.hid ht
  have HU := Lib.hid hu
  clear ht hu
  cases neg with
  | true =>
    have HQ := Lib.hid hq
    clear hq
    go_enter Tryz.func55, Tryz.ntmps55
    go_wp2_with fail
    refine hd.mono ?_; rintro e w3 ⟨A2, c2, rfl, O2, B2⟩
    have ov1 := over_any A A2 c c2 _ _ a (digs g) w3 rfl rfl (st (st ha B1) B2) O2.rw na (Nrm_digs _) hg0 (by omega)
    rw [val_digs, ← HT.out] at ov1
    go_wp2_with fail
    refine ov1.mono ?_; rintro e w4 ⟨A3, c3, A9, c9, rfl, O3, O9, B3⟩
    have ov2 := over_any D A2 d c2 _ _ b (digs g) w4 rfl rfl (st (st (st hb B1) B2) B3) (st O2.rw B3) nb (Nrm_digs _) hg0 (by omega)
    rw [val_digs, ← HU.out] at ov2
    go_wp2_with fail
    refine ov2.mono ?_; rintro e w5 ⟨A4, c4, A8, c8, rfl, O4, O8, B4⟩
    have s5 := ((s1.nx B2).nx B3).nx B4
    have m0 := s5.cell 0
    have m1 := s5.cell 1
    have m2 := s5.cell 2
    have f0 := s5.frozen 0
    have f1 := s5.frozen 1
    have f2 := s5.frozen 2
    have hz : w.heap.size + 1 ≤ (w.alloc (.cells #[.bool false, .slice none 0 0, .slice none 0 0] 24)).heap.size := by simp
    have hz4 := B3.size
    have hz3 := B2.size
    have s6 := s5.put3 (.bool (decide (0 < (digs t).length))) (.slice A3 (digs t).length c3) (.slice A4 (digs u).length c4)
    have B5 : Below w.heap.size w (wr3 w5 w.heap.size (.bool (decide (0 < (digs t).length))) (.slice A3 (digs t).length c3) (.slice A4 (digs u).length c4)) := put3_below (bt (bt (bt B1 B2) B3) B4) (Nat.le_refl _) _ _ _
    have O3' := (O3.below B4 (Nat.le_refl _)).put3 (b := w.heap.size) (by omega) (.bool (decide (0 < (digs t).length))) (.slice A3 (digs t).length c3) (.slice A4 (digs u).length c4)
    have O4' := O4.put3 (b := w.heap.size) (by omega) (.bool (decide (0 < (digs t).length))) (.slice A3 (digs t).length c3) (.slice A4 (digs u).length c4)
    have r0 := s6.cell 0
    have r1 := s6.cell 1
    have r2 := s6.cell 2
    unfold wr3 at s6 B5 O3' O4' r0 r1 r2
    clear ov1 ov2
    go_wp2_with fail
    refine bodyPost_ret (v := .agg #[.bool (decide (0 < (digs t).length)), .slice A3 (digs t).length c3, .slice A4 (digs u).length c4]) (by simp [results, r0, r1, r2, go_sem]) rfl ?_
    refine ⟨A3, c3, A4, c4, ?_, ?_, ?_, B5⟩
    · rw [HQ.out.1, HQ.out.2.1, HQ.out.2.2, digs_pos_iff (n := t)]; rfl
    · rw [HQ.out.2.1]; exact O3'.base_le (by omega)
    · rw [HQ.out.2.2]; exact O4'.base_le (by omega)

  | false =>
    have HQ := Lib.hid hq
    clear hq
    go_enter Tryz.func55, Tryz.ntmps55
    go_wp2_with fail
    refine hd.mono ?_; rintro e w3 ⟨A2, c2, rfl, O2, B2⟩
    have ov1 := over_any A A2 c c2 _ _ a (digs g) w3 rfl rfl (st (st ha B1) B2) O2.rw na (Nrm_digs _) hg0 (by omega)
    rw [val_digs, ← HT.out] at ov1
    go_wp2_with fail
    refine ov1.mono ?_; rintro e w4 ⟨A3, c3, A9, c9, rfl, O3, O9, B3⟩
    have ov2 := over_any D A2 d c2 _ _ b (digs g) w4 rfl rfl (st (st (st hb B1) B2) B3) (st O2.rw B3) nb (Nrm_digs _) hg0 (by omega)
    rw [val_digs, ← HU.out] at ov2
    go_wp2_with fail
    refine ov2.mono ?_; rintro e w5 ⟨A4, c4, A8, c8, rfl, O4, O8, B4⟩
    have s5 := ((s1.nx B2).nx B3).nx B4
    have m0 := s5.cell 0
    have m1 := s5.cell 1
    have m2 := s5.cell 2
    have f0 := s5.frozen 0
    have f1 := s5.frozen 1
    have f2 := s5.frozen 2
    have hz : w.heap.size + 1 ≤ (w.alloc (.cells #[.bool false, .slice none 0 0, .slice none 0 0] 24)).heap.size := by simp
    have hz4 := B3.size
    have hz3 := B2.size
    have s6 := s5.put3 (.bool false) (.slice A3 (digs t).length c3) (.slice A4 (digs u).length c4)
    have B5 : Below w.heap.size w (wr3 w5 w.heap.size (.bool false) (.slice A3 (digs t).length c3) (.slice A4 (digs u).length c4)) := put3_below (bt (bt (bt B1 B2) B3) B4) (Nat.le_refl _) _ _ _
    have O3' := (O3.below B4 (Nat.le_refl _)).put3 (b := w.heap.size) (by omega) (.bool false) (.slice A3 (digs t).length c3) (.slice A4 (digs u).length c4)
    have O4' := O4.put3 (b := w.heap.size) (by omega) (.bool false) (.slice A3 (digs t).length c3) (.slice A4 (digs u).length c4)
    have r0 := s6.cell 0
    have r1 := s6.cell 1
    have r2 := s6.cell 2
    unfold wr3 at s6 B5 O3' O4' r0 r1 r2
    clear ov1 ov2
    go_wp2_with fail
    refine bodyPost_ret (v := .agg #[.bool false, .slice A3 (digs t).length c3, .slice A4 (digs u).length c4]) (by simp [results, r0, r1, r2, go_sem]) rfl ?_
    refine ⟨A3, c3, A4, c4, ?_, ?_, ?_, B5⟩
    · rw [HQ.out.1, HQ.out.2.1, HQ.out.2.2]; rfl
    · rw [HQ.out.2.1]; exact O3'.base_le (by omega)
    · rw [HQ.out.2.2]; exact O4'.base_le (by omega)


set_option maxHeartbeats 4000000 in
theorem sum_any (v u : Value) (p q : Rat) (w : World) (hv : RQ w w.heap.size v p) (hu : RQ w w.heap.size u q) (hl : qw p + qw q ≤ 14000) :
    Calls Tryz.prog 34 #[v, u] w (RetR w (p + q)) := by
  obtain ⟨A, c, D, d, rfl, ra, rb⟩ := hv
  obtain ⟨E, e0, H, h0, rfl, rc, rd⟩ := hu
  have lp1 := qw_t p
  have lp2 := qw_d p
  have lq1 := qw_t q
  have lq2 := qw_d q
  have k0 := S3.new w [.bool (qn p), .slice A (digs (qt p)).length c, .slice D (digs (qd p)).length d] [.bool (qn q), .slice E (digs (qt q)).length e0, .slice H (digs (qd q)).length h0] [.bool false, .slice none 0 0, .slice none 0 0] 24 24 24 3
  have hT1 := fun w' x y => times_any A H c h0 _ _ (digs (qt p)) (digs (qd q)) w' rfl rfl x y (by omega) (by omega)
  have hT2 := fun w' x y => times_any E D e0 d _ _ (digs (qt q)) (digs (qd p)) w' rfl rfl x y (by omega) (by omega)
  have hT3 := fun w' x y => times_any D H d h0 _ _ (digs (qd p)) (digs (qd q)) w' rfl rfl x y (by omega) (by omega)
  simp only [val_digs] at hT1 hT2 hT3
  have hl1 := q_xy p q
  have hl2 := q_xy q p
  have hl3 := q_bb p q
  have hB0 : qd p * qd q ≠ 0 := Nat.mul_ne_zero (qd_pos p) (qd_pos q)
  have hE1 : qn p = qn q → ratN (qn p) (qt p * qd q + qt q * qd p) (qd p * qd q) = p + q := q_sum_same
  have hE2 : qn p ≠ qn q → qt q * qd p ≤ qt p * qd q → ratN (qn p) (qt p * qd q - qt q * qd p) (qd p * qd q) = p + q := q_sum_left
  have hE3 : qn p ≠ qn q → qt p * qd q ≤ qt q * qd p → ratN (qn q) (qt q * qd p - qt p * qd q) (qd p * qd q) = p + q := q_sum_right
  generalize qt p * qd q = X at *
  generalize qt q * qd p = Y at *
  generalize qd p * qd q = B at *
  have hl4 : (digs (X + Y)).length ≤ 15000 := Nat.le_trans (digs_add hl1 (by omega)) (by omega)
  have hl5 : (digs (X - Y)).length ≤ 15000 := Nat.le_trans (digs_mono (Nat.sub_le X Y)) (by omega)
  have hl6 : (digs (Y - X)).length ≤ 15000 := Nat.le_trans (digs_mono (Nat.sub_le Y X)) (by omega)
  by_cases hs : qn p = qn q
  · have hsb : (qn p == qn q) = true := by rw [hs]; simp
    have hR := fun A4 c4 A5 c5 w' x y => rat_any (qn p) A4 c4 A5 c5 _ _ (digs (X + Y)) (digs B) w' rfl rfl x y (Nrm_digs _) (Nrm_digs _) (by rw [val_digs]; exact hB0) hl4 (by omega)
    simp only [val_digs, hE1 hs] at hR
    clear hE1 hE2 hE3 hs
    go_enter Tryz.func34, Tryz.ntmps34
    go_wp2_with fail
    have k0d := k0.dr
    have k0s := And.intro (k0d.1.cell 1) (And.intro (k0d.1.cell 2) (And.intro (k0d.2.1.cell 1) (And.intro (k0d.2.1.cell 2) (k0d))))
    go_region_held3 (fun w' => w'.cell? ⟨w.heap.size, 1, none⟩ = some (.slice A (digs (qt p)).length c) ∧ w'.cell? ⟨w.heap.size, 2, none⟩ = some (.slice D (digs (qd p)).length d) ∧ w'.cell? ⟨w.heap.size + 1, 1, none⟩ = some (.slice E (digs (qt q)).length e0) ∧ w'.cell? ⟨w.heap.size + 1, 2, none⟩ = some (.slice H (digs (qd q)).length h0) ∧ S3 w w.heap.size [.bool (qn p), .slice A (digs (qt p)).length c, .slice D (digs (qd p)).length d] [.bool (qn q), .slice E (digs (qt q)).length e0, .slice H (digs (qd q)).length h0] 3 w')
      (first
        | with_reducible exact k0s
        | (have s1 := (by assumption : _ ∧ _ ∧ _ ∧ _ ∧ S3 w w.heap.size [.bool (qn p), .slice A (digs (qt p)).length c, .slice D (digs (qd p)).length d] [.bool (qn q), .slice E (digs (qt q)).length e0, .slice H (digs (qd q)).length h0] 3 _).2.2.2.2.nx BX; have q0_ := s1.1.cell 1; have q1_ := s1.1.cell 2; have q2_ := s1.2.1.cell 1; have q3_ := s1.2.1.cell 2; with_reducible exact ⟨q0_, q1_, q2_, q3_, s1⟩))
      (first
        | (go_at_call_of 54 (Value.slice A (digs (qt p)).length c); have hh := (by assumption : _ ∧ _ ∧ _ ∧ _ ∧ S3 w w.heap.size [.bool (qn p), .slice A (digs (qt p)).length c, .slice D (digs (qd p)).length d] [.bool (qn q), .slice E (digs (qt q)).length e0, .slice H (digs (qd q)).length h0] 3 _).2.2.2.2; refine (hT1 _ (st ra hh.2.2.2) (st rd hh.2.2.2)).mono ?_; rintro e w4 ⟨A4, c4, rfl, O4, BX⟩)
        | (go_at_call_of 54 (Value.slice E (digs (qt q)).length e0); have hh := (by assumption : _ ∧ _ ∧ _ ∧ _ ∧ S3 w w.heap.size [.bool (qn p), .slice A (digs (qt p)).length c, .slice D (digs (qd p)).length d] [.bool (qn q), .slice E (digs (qt q)).length e0, .slice H (digs (qd q)).length h0] 3 _).2.2.2.2; refine (hT2 _ (st rc hh.2.2.2) (st rb hh.2.2.2)).mono ?_; rintro e w5 ⟨A5, c5, rfl, O5, BX⟩; have k1 := hh.nx BX; have B5 := BX))
    have m0 := k1.1.cell 2
    have m1 := k1.2.1.cell 2
    go_wp2_with fail
    refine (hT3 _ (st rb k1.2.2.2) (st rd k1.2.2.2)).mono ?_; rintro e w6 ⟨A6, c6, rfl, O6, B6⟩
    have k2 := k1.nx B6
    have m2 := k2.1.cell 0
    have m3 := k2.2.1.cell 0
    have rx := st (st O4.rw B5) B6
    have ry := st O5.rw B6
    have hP := plus_any A4 A5 c4 c5 _ _ (digs X) (digs Y) w6.drew rfl rfl rx ry (by omega) (by omega)
    rw [val_digs, val_digs] at hP
    go_wp2_with fail
    have k2d := k2.dr
    have k2s := And.intro (k2d.1.cell 0) (And.intro (k2d.2.2.1.cell 0) (And.intro (k2d.2.2.1.frozen 0) (And.intro (k2d.2.2.1.cell 1) (And.intro (k2d.2.2.1.frozen 1) (And.intro (k2d.2.2.1.cell 2) (And.intro (k2d.2.2.1.frozen 2) (k2d)))))))
    go_region_held3 (fun w' => w'.cell? ⟨w.heap.size, 0, none⟩ = some (.bool (qn p)) ∧ w'.cell? ⟨w.heap.size + 2, 0, none⟩ = some (cv w' (w.heap.size + 2) 0) ∧ w'.frozen? ⟨w.heap.size + 2, 0, none⟩ = false ∧ w'.cell? ⟨w.heap.size + 2, 1, none⟩ = some (cv w' (w.heap.size + 2) 1) ∧ w'.frozen? ⟨w.heap.size + 2, 1, none⟩ = false ∧ w'.cell? ⟨w.heap.size + 2, 2, none⟩ = some (cv w' (w.heap.size + 2) 2) ∧ w'.frozen? ⟨w.heap.size + 2, 2, none⟩ = false ∧ S3 w w.heap.size [.bool (qn p), .slice A (digs (qt p)).length c, .slice D (digs (qd p)).length d] [.bool (qn q), .slice E (digs (qt q)).length e0, .slice H (digs (qd q)).length h0] 3 w')
      (first
        | with_reducible exact k2s
        | (have s1 := (by assumption : _ ∧ _ ∧ _ ∧ _ ∧ _ ∧ _ ∧ _ ∧ S3 w w.heap.size [.bool (qn p), .slice A (digs (qt p)).length c, .slice D (digs (qd p)).length d] [.bool (qn q), .slice E (digs (qt q)).length e0, .slice H (digs (qd q)).length h0] 3 _).2.2.2.2.2.2.2.nx BX; have q0_ := s1.1.cell 0; have q1_ := s1.2.2.1.cell 0; have q2_ := s1.2.2.1.frozen 0; have q3_ := s1.2.2.1.cell 1; have q4_ := s1.2.2.1.frozen 1; have q5_ := s1.2.2.1.cell 2; have q6_ := s1.2.2.1.frozen 2; with_reducible exact ⟨q0_, q1_, q2_, q3_, q4_, q5_, q6_, s1⟩)
        | (have s1 := (by assumption : _ ∧ _ ∧ _ ∧ _ ∧ _ ∧ _ ∧ _ ∧ S3 w w.heap.size [.bool (qn p), .slice A (digs (qt p)).length c, .slice D (digs (qd p)).length d] [.bool (qn q), .slice E (digs (qt q)).length e0, .slice H (digs (qd q)).length h0] 3 _).2.2.2.2.2.2.2.put (.bool (qn (p + q))) (.slice A8 (digs (qt (p + q))).length c8) (.slice A9 (digs (qd (p + q))).length c9); have q0_ := s1.1.cell 0; have q1_ := s1.2.2.1.cell 0; have q2_ := s1.2.2.1.frozen 0; have q3_ := s1.2.2.1.cell 1; have q4_ := s1.2.2.1.frozen 1; have q5_ := s1.2.2.1.cell 2; have q6_ := s1.2.2.1.frozen 2; with_reducible exact ⟨q0_, q1_, q2_, q3_, q4_, q5_, q6_, s1⟩))
      (first
        | (go_at_call 51; have hh := (by assumption : _ ∧ _ ∧ _ ∧ _ ∧ _ ∧ _ ∧ _ ∧ S3 w w.heap.size [.bool (qn p), .slice A (digs (qt p)).length c, .slice D (digs (qd p)).length d] [.bool (qn q), .slice E (digs (qt q)).length e0, .slice H (digs (qd q)).length h0] 3 _).2.2.2.2.2.2.2; refine hP.mono ?_; rintro e w7 ⟨A7, c7, rfl, O7, BX⟩; have B7 := BX)
        | (go_at_call 55; have hh := (by assumption : _ ∧ _ ∧ _ ∧ _ ∧ _ ∧ _ ∧ _ ∧ S3 w w.heap.size [.bool (qn p), .slice A (digs (qt p)).length c, .slice D (digs (qd p)).length d] [.bool (qn q), .slice E (digs (qt q)).length e0, .slice H (digs (qd q)).length h0] 3 _).2.2.2.2.2.2.2; refine (hR A7 A6 c7 c6 _ O7.rw (st (show RW w6.drew w6.drew.heap.size A6 c6 (digs B) from O6.rw) B7)).mono ?_; rintro e w8 ⟨A8, c8, A9, c9, rfl, O8, O9, BX⟩; have kk := hh.nx BX; have B8 := BX))
    have s6 := kk.2.2.1.put3 (.bool (qn (p + q))) (.slice A8 (digs (qt (p + q))).length c8) (.slice A9 (digs (qd (p + q))).length c9)
    have hb6 := hh.2.2.1.2
    have B6 := put3_below (b := w.heap.size + 2) kk.2.2.2 (by omega) (.bool (qn (p + q))) (.slice A8 (digs (qt (p + q))).length c8) (.slice A9 (digs (qd (p + q))).length c9)
    have Oa := O8.put3 (b := w.heap.size + 2) hb6 (.bool (qn (p + q))) (.slice A8 (digs (qt (p + q))).length c8) (.slice A9 (digs (qd (p + q))).length c9)
    have Ob := O9.put3 (b := w.heap.size + 2) hb6 (.bool (qn (p + q))) (.slice A8 (digs (qt (p + q))).length c8) (.slice A9 (digs (qd (p + q))).length c9)
    have r0 := s6.cell 0
    have r1 := s6.cell 1
    have r2 := s6.cell 2
    unfold wr3 at s6 B6 Oa Ob r0 r1 r2
    go_wp2_with fail
    refine bodyPost_ret (v := .agg #[.bool (qn (p + q)), .slice A8 (digs (qt (p + q))).length c8, .slice A9 (digs (qd (p + q))).length c9]) (by simp [results, r0, r1, r2, go_sem]) rfl ?_
    exact ⟨A8, c8, A9, c9, rfl, Oa.base_le (by omega), Ob.base_le (by omega), B6⟩
  · have hsb : (qn p == qn q) = false := beq_eq_false_iff_ne.2 hs
    rcases Nat.lt_or_ge X Y with hlt | hge
    · have hz : cmpN X Y = -1 := cmpN_lt hlt
      have hle : Hid (X ≤ Y) := Nat.le_of_lt hlt
      have hR := fun A4 c4 A5 c5 w' x y => rat_any (qn q) A4 c4 A5 c5 _ _ (digs (Y - X)) (digs B) w' rfl rfl x y (Nrm_digs _) (Nrm_digs _) (by rw [val_digs]; exact hB0) hl6 (by omega)
      simp only [val_digs, hE3 hs hle.out] at hR
      clear hE1 hE2 hE3 hs hlt
      go_enter Tryz.func34, Tryz.ntmps34
      go_wp2_with fail
      have k0d := k0.dr
      have k0s := And.intro (k0d.1.cell 1) (And.intro (k0d.1.cell 2) (And.intro (k0d.2.1.cell 1) (And.intro (k0d.2.1.cell 2) (k0d))))
      go_region_held3 (fun w' => w'.cell? ⟨w.heap.size, 1, none⟩ = some (.slice A (digs (qt p)).length c) ∧ w'.cell? ⟨w.heap.size, 2, none⟩ = some (.slice D (digs (qd p)).length d) ∧ w'.cell? ⟨w.heap.size + 1, 1, none⟩ = some (.slice E (digs (qt q)).length e0) ∧ w'.cell? ⟨w.heap.size + 1, 2, none⟩ = some (.slice H (digs (qd q)).length h0) ∧ S3 w w.heap.size [.bool (qn p), .slice A (digs (qt p)).length c, .slice D (digs (qd p)).length d] [.bool (qn q), .slice E (digs (qt q)).length e0, .slice H (digs (qd q)).length h0] 3 w')
        (first
          | with_reducible exact k0s
          | (have s1 := (by assumption : _ ∧ _ ∧ _ ∧ _ ∧ S3 w w.heap.size [.bool (qn p), .slice A (digs (qt p)).length c, .slice D (digs (qd p)).length d] [.bool (qn q), .slice E (digs (qt q)).length e0, .slice H (digs (qd q)).length h0] 3 _).2.2.2.2.nx BX; have q0_ := s1.1.cell 1; have q1_ := s1.1.cell 2; have q2_ := s1.2.1.cell 1; have q3_ := s1.2.1.cell 2; with_reducible exact ⟨q0_, q1_, q2_, q3_, s1⟩))
        (first
          | (go_at_call_of 54 (Value.slice A (digs (qt p)).length c); have hh := (by assumption : _ ∧ _ ∧ _ ∧ _ ∧ S3 w w.heap.size [.bool (qn p), .slice A (digs (qt p)).length c, .slice D (digs (qd p)).length d] [.bool (qn q), .slice E (digs (qt q)).length e0, .slice H (digs (qd q)).length h0] 3 _).2.2.2.2; refine (hT1 _ (st ra hh.2.2.2) (st rd hh.2.2.2)).mono ?_; rintro e w4 ⟨A4, c4, rfl, O4, BX⟩)
          | (go_at_call_of 54 (Value.slice E (digs (qt q)).length e0); have hh := (by assumption : _ ∧ _ ∧ _ ∧ _ ∧ S3 w w.heap.size [.bool (qn p), .slice A (digs (qt p)).length c, .slice D (digs (qd p)).length d] [.bool (qn q), .slice E (digs (qt q)).length e0, .slice H (digs (qd q)).length h0] 3 _).2.2.2.2; refine (hT2 _ (st rc hh.2.2.2) (st rb hh.2.2.2)).mono ?_; rintro e w5 ⟨A5, c5, rfl, O5, BX⟩; have k1 := hh.nx BX; have B5 := BX))
      have m0 := k1.1.cell 2
      have m1 := k1.2.1.cell 2
      go_wp2_with fail
      refine (hT3 _ (st rb k1.2.2.2) (st rd k1.2.2.2)).mono ?_; rintro e w6 ⟨A6, c6, rfl, O6, B6⟩
      have k2 := k1.nx B6
      have m2 := k2.1.cell 0
      have m3 := k2.2.1.cell 0
      have rx := st (st O4.rw B5) B6
      have ry := st O5.rw B6
      have hO := order_any A4 A5 c4 c5 _ _ (digs X) (digs Y) w6 rfl rfl rx ry (Nrm_digs _) (Nrm_digs _)
      rw [val_digs, val_digs, hz] at hO
      clear hz
      go_wp2_with fail
      refine hO.mono ?_; rintro e wo ⟨rfl, ko, hwo⟩
      have Bo : Below w6.heap.size w6 wo := by rw [hwo]; exact bdN (Below.refl _ _) ko
      clear hwo
      have k3 := k2.nx Bo
      have sx := st rx Bo
      have sy := st ry Bo
      have R6 := st O6.rw Bo
      have hP := less_any A5 A4 c5 c4 _ _ (digs Y) (digs X) wo.drew rfl rfl sy sx (digs_mono hle.out) (by rw [val_digs, val_digs]; exact hle.out)
      rw [val_digs, val_digs] at hP
      go_wp2_with fail
      have k3d := k3.dr
      have k3s := And.intro (k3d.2.1.cell 0) (And.intro (k3d.2.2.1.cell 0) (And.intro (k3d.2.2.1.frozen 0) (And.intro (k3d.2.2.1.cell 1) (And.intro (k3d.2.2.1.frozen 1) (And.intro (k3d.2.2.1.cell 2) (And.intro (k3d.2.2.1.frozen 2) (k3d)))))))
      go_region_held3 (fun w' => w'.cell? ⟨w.heap.size + 1, 0, none⟩ = some (.bool (qn q)) ∧ w'.cell? ⟨w.heap.size + 2, 0, none⟩ = some (cv w' (w.heap.size + 2) 0) ∧ w'.frozen? ⟨w.heap.size + 2, 0, none⟩ = false ∧ w'.cell? ⟨w.heap.size + 2, 1, none⟩ = some (cv w' (w.heap.size + 2) 1) ∧ w'.frozen? ⟨w.heap.size + 2, 1, none⟩ = false ∧ w'.cell? ⟨w.heap.size + 2, 2, none⟩ = some (cv w' (w.heap.size + 2) 2) ∧ w'.frozen? ⟨w.heap.size + 2, 2, none⟩ = false ∧ S3 w w.heap.size [.bool (qn p), .slice A (digs (qt p)).length c, .slice D (digs (qd p)).length d] [.bool (qn q), .slice E (digs (qt q)).length e0, .slice H (digs (qd q)).length h0] 3 w')
        (first
          | with_reducible exact k3s
          | (have s1 := (by assumption : _ ∧ _ ∧ _ ∧ _ ∧ _ ∧ _ ∧ _ ∧ S3 w w.heap.size [.bool (qn p), .slice A (digs (qt p)).length c, .slice D (digs (qd p)).length d] [.bool (qn q), .slice E (digs (qt q)).length e0, .slice H (digs (qd q)).length h0] 3 _).2.2.2.2.2.2.2.nx BX; have q0_ := s1.2.1.cell 0; have q1_ := s1.2.2.1.cell 0; have q2_ := s1.2.2.1.frozen 0; have q3_ := s1.2.2.1.cell 1; have q4_ := s1.2.2.1.frozen 1; have q5_ := s1.2.2.1.cell 2; have q6_ := s1.2.2.1.frozen 2; with_reducible exact ⟨q0_, q1_, q2_, q3_, q4_, q5_, q6_, s1⟩)
          | (have s1 := (by assumption : _ ∧ _ ∧ _ ∧ _ ∧ _ ∧ _ ∧ _ ∧ S3 w w.heap.size [.bool (qn p), .slice A (digs (qt p)).length c, .slice D (digs (qd p)).length d] [.bool (qn q), .slice E (digs (qt q)).length e0, .slice H (digs (qd q)).length h0] 3 _).2.2.2.2.2.2.2.put (.bool (qn (p + q))) (.slice A8 (digs (qt (p + q))).length c8) (.slice A9 (digs (qd (p + q))).length c9); have q0_ := s1.2.1.cell 0; have q1_ := s1.2.2.1.cell 0; have q2_ := s1.2.2.1.frozen 0; have q3_ := s1.2.2.1.cell 1; have q4_ := s1.2.2.1.frozen 1; have q5_ := s1.2.2.1.cell 2; have q6_ := s1.2.2.1.frozen 2; with_reducible exact ⟨q0_, q1_, q2_, q3_, q4_, q5_, q6_, s1⟩))
        (first
          | (go_at_call 25; have hh := (by assumption : _ ∧ _ ∧ _ ∧ _ ∧ _ ∧ _ ∧ _ ∧ S3 w w.heap.size [.bool (qn p), .slice A (digs (qt p)).length c, .slice D (digs (qd p)).length d] [.bool (qn q), .slice E (digs (qt q)).length e0, .slice H (digs (qd q)).length h0] 3 _).2.2.2.2.2.2.2; refine hP.mono ?_; rintro e w7 ⟨A7, c7, rfl, O7, BX⟩; have B7 := BX)
          | (go_at_call 55; have hh := (by assumption : _ ∧ _ ∧ _ ∧ _ ∧ _ ∧ _ ∧ _ ∧ S3 w w.heap.size [.bool (qn p), .slice A (digs (qt p)).length c, .slice D (digs (qd p)).length d] [.bool (qn q), .slice E (digs (qt q)).length e0, .slice H (digs (qd q)).length h0] 3 _).2.2.2.2.2.2.2; refine (hR A7 A6 c7 c6 _ O7.rw (st (show RW wo.drew wo.drew.heap.size A6 c6 (digs B) from R6) B7)).mono ?_; rintro e w8 ⟨A8, c8, A9, c9, rfl, O8, O9, BX⟩; have kk := hh.nx BX; have B8 := BX))
      have s6 := kk.2.2.1.put3 (.bool (qn (p + q))) (.slice A8 (digs (qt (p + q))).length c8) (.slice A9 (digs (qd (p + q))).length c9)
      have hb6 := hh.2.2.1.2
      have B6 := put3_below (b := w.heap.size + 2) kk.2.2.2 (by omega) (.bool (qn (p + q))) (.slice A8 (digs (qt (p + q))).length c8) (.slice A9 (digs (qd (p + q))).length c9)
      have Oa := O8.put3 (b := w.heap.size + 2) hb6 (.bool (qn (p + q))) (.slice A8 (digs (qt (p + q))).length c8) (.slice A9 (digs (qd (p + q))).length c9)
      have Ob := O9.put3 (b := w.heap.size + 2) hb6 (.bool (qn (p + q))) (.slice A8 (digs (qt (p + q))).length c8) (.slice A9 (digs (qd (p + q))).length c9)
      have r0 := s6.cell 0
      have r1 := s6.cell 1
      have r2 := s6.cell 2
      unfold wr3 at s6 B6 Oa Ob r0 r1 r2
      go_wp2_with fail
      refine bodyPost_ret (v := .agg #[.bool (qn (p + q)), .slice A8 (digs (qt (p + q))).length c8, .slice A9 (digs (qd (p + q))).length c9]) (by simp [results, r0, r1, r2, go_sem]) rfl ?_
      exact ⟨A8, c8, A9, c9, rfl, Oa.base_le (by omega), Ob.base_le (by omega), B6⟩
    · obtain ⟨z, hz, hz0⟩ : ∃ z, cmpN X Y = z ∧ 0 ≤ z := ⟨_, rfl, cmpN_ge hge⟩
      have hle : Hid (Y ≤ X) := hge
      have hR := fun A4 c4 A5 c5 w' x y => rat_any (qn p) A4 c4 A5 c5 _ _ (digs (X - Y)) (digs B) w' rfl rfl x y (Nrm_digs _) (Nrm_digs _) (by rw [val_digs]; exact hB0) hl5 (by omega)
      simp only [val_digs, hE2 hs hle.out] at hR
      clear hE1 hE2 hE3 hs hge
      go_enter Tryz.func34, Tryz.ntmps34
      go_wp2_with fail
      have k0d := k0.dr
      have k0s := And.intro (k0d.1.cell 1) (And.intro (k0d.1.cell 2) (And.intro (k0d.2.1.cell 1) (And.intro (k0d.2.1.cell 2) (k0d))))
      go_region_held3 (fun w' => w'.cell? ⟨w.heap.size, 1, none⟩ = some (.slice A (digs (qt p)).length c) ∧ w'.cell? ⟨w.heap.size, 2, none⟩ = some (.slice D (digs (qd p)).length d) ∧ w'.cell? ⟨w.heap.size + 1, 1, none⟩ = some (.slice E (digs (qt q)).length e0) ∧ w'.cell? ⟨w.heap.size + 1, 2, none⟩ = some (.slice H (digs (qd q)).length h0) ∧ S3 w w.heap.size [.bool (qn p), .slice A (digs (qt p)).length c, .slice D (digs (qd p)).length d] [.bool (qn q), .slice E (digs (qt q)).length e0, .slice H (digs (qd q)).length h0] 3 w')
        (first
          | with_reducible exact k0s
          | (have s1 := (by assumption : _ ∧ _ ∧ _ ∧ _ ∧ S3 w w.heap.size [.bool (qn p), .slice A (digs (qt p)).length c, .slice D (digs (qd p)).length d] [.bool (qn q), .slice E (digs (qt q)).length e0, .slice H (digs (qd q)).length h0] 3 _).2.2.2.2.nx BX; have q0_ := s1.1.cell 1; have q1_ := s1.1.cell 2; have q2_ := s1.2.1.cell 1; have q3_ := s1.2.1.cell 2; with_reducible exact ⟨q0_, q1_, q2_, q3_, s1⟩))
        (first
          | (go_at_call_of 54 (Value.slice A (digs (qt p)).length c); have hh := (by assumption : _ ∧ _ ∧ _ ∧ _ ∧ S3 w w.heap.size [.bool (qn p), .slice A (digs (qt p)).length c, .slice D (digs (qd p)).length d] [.bool (qn q), .slice E (digs (qt q)).length e0, .slice H (digs (qd q)).length h0] 3 _).2.2.2.2; refine (hT1 _ (st ra hh.2.2.2) (st rd hh.2.2.2)).mono ?_; rintro e w4 ⟨A4, c4, rfl, O4, BX⟩)
          | (go_at_call_of 54 (Value.slice E (digs (qt q)).length e0); have hh := (by assumption : _ ∧ _ ∧ _ ∧ _ ∧ S3 w w.heap.size [.bool (qn p), .slice A (digs (qt p)).length c, .slice D (digs (qd p)).length d] [.bool (qn q), .slice E (digs (qt q)).length e0, .slice H (digs (qd q)).length h0] 3 _).2.2.2.2; refine (hT2 _ (st rc hh.2.2.2) (st rb hh.2.2.2)).mono ?_; rintro e w5 ⟨A5, c5, rfl, O5, BX⟩; have k1 := hh.nx BX; have B5 := BX))
      have m0 := k1.1.cell 2
      have m1 := k1.2.1.cell 2
      go_wp2_with fail
      refine (hT3 _ (st rb k1.2.2.2) (st rd k1.2.2.2)).mono ?_; rintro e w6 ⟨A6, c6, rfl, O6, B6⟩
      have k2 := k1.nx B6
      have m2 := k2.1.cell 0
      have m3 := k2.2.1.cell 0
      have rx := st (st O4.rw B5) B6
      have ry := st O5.rw B6
      have hO := order_any A4 A5 c4 c5 _ _ (digs X) (digs Y) w6 rfl rfl rx ry (Nrm_digs _) (Nrm_digs _)
      rw [val_digs, val_digs, hz] at hO
      clear hz
      go_wp2_with fail
      refine hO.mono ?_; rintro e wo ⟨rfl, ko, hwo⟩
      have Bo : Below w6.heap.size w6 wo := by rw [hwo]; exact bdN (Below.refl _ _) ko
      clear hwo
      have k3 := k2.nx Bo
      have sx := st rx Bo
      have sy := st ry Bo
      have R6 := st O6.rw Bo
      have hP := less_any A4 A5 c4 c5 _ _ (digs X) (digs Y) wo.drew rfl rfl sx sy (digs_mono hle.out) (by rw [val_digs, val_digs]; exact hle.out)
      rw [val_digs, val_digs] at hP
      go_wp2_with fail
      have k3d := k3.dr
      have k3s := And.intro (k3d.1.cell 0) (And.intro (k3d.2.2.1.cell 0) (And.intro (k3d.2.2.1.frozen 0) (And.intro (k3d.2.2.1.cell 1) (And.intro (k3d.2.2.1.frozen 1) (And.intro (k3d.2.2.1.cell 2) (And.intro (k3d.2.2.1.frozen 2) (k3d)))))))
      go_region_held3 (fun w' => w'.cell? ⟨w.heap.size, 0, none⟩ = some (.bool (qn p)) ∧ w'.cell? ⟨w.heap.size + 2, 0, none⟩ = some (cv w' (w.heap.size + 2) 0) ∧ w'.frozen? ⟨w.heap.size + 2, 0, none⟩ = false ∧ w'.cell? ⟨w.heap.size + 2, 1, none⟩ = some (cv w' (w.heap.size + 2) 1) ∧ w'.frozen? ⟨w.heap.size + 2, 1, none⟩ = false ∧ w'.cell? ⟨w.heap.size + 2, 2, none⟩ = some (cv w' (w.heap.size + 2) 2) ∧ w'.frozen? ⟨w.heap.size + 2, 2, none⟩ = false ∧ S3 w w.heap.size [.bool (qn p), .slice A (digs (qt p)).length c, .slice D (digs (qd p)).length d] [.bool (qn q), .slice E (digs (qt q)).length e0, .slice H (digs (qd q)).length h0] 3 w')
        (first
          | with_reducible exact k3s
          | (have s1 := (by assumption : _ ∧ _ ∧ _ ∧ _ ∧ _ ∧ _ ∧ _ ∧ S3 w w.heap.size [.bool (qn p), .slice A (digs (qt p)).length c, .slice D (digs (qd p)).length d] [.bool (qn q), .slice E (digs (qt q)).length e0, .slice H (digs (qd q)).length h0] 3 _).2.2.2.2.2.2.2.nx BX; have q0_ := s1.1.cell 0; have q1_ := s1.2.2.1.cell 0; have q2_ := s1.2.2.1.frozen 0; have q3_ := s1.2.2.1.cell 1; have q4_ := s1.2.2.1.frozen 1; have q5_ := s1.2.2.1.cell 2; have q6_ := s1.2.2.1.frozen 2; with_reducible exact ⟨q0_, q1_, q2_, q3_, q4_, q5_, q6_, s1⟩)
          | (have s1 := (by assumption : _ ∧ _ ∧ _ ∧ _ ∧ _ ∧ _ ∧ _ ∧ S3 w w.heap.size [.bool (qn p), .slice A (digs (qt p)).length c, .slice D (digs (qd p)).length d] [.bool (qn q), .slice E (digs (qt q)).length e0, .slice H (digs (qd q)).length h0] 3 _).2.2.2.2.2.2.2.put (.bool (qn (p + q))) (.slice A8 (digs (qt (p + q))).length c8) (.slice A9 (digs (qd (p + q))).length c9); have q0_ := s1.1.cell 0; have q1_ := s1.2.2.1.cell 0; have q2_ := s1.2.2.1.frozen 0; have q3_ := s1.2.2.1.cell 1; have q4_ := s1.2.2.1.frozen 1; have q5_ := s1.2.2.1.cell 2; have q6_ := s1.2.2.1.frozen 2; with_reducible exact ⟨q0_, q1_, q2_, q3_, q4_, q5_, q6_, s1⟩))
        (first
          | (go_at_call 25; have hh := (by assumption : _ ∧ _ ∧ _ ∧ _ ∧ _ ∧ _ ∧ _ ∧ S3 w w.heap.size [.bool (qn p), .slice A (digs (qt p)).length c, .slice D (digs (qd p)).length d] [.bool (qn q), .slice E (digs (qt q)).length e0, .slice H (digs (qd q)).length h0] 3 _).2.2.2.2.2.2.2; refine hP.mono ?_; rintro e w7 ⟨A7, c7, rfl, O7, BX⟩; have B7 := BX)
          | (go_at_call 55; have hh := (by assumption : _ ∧ _ ∧ _ ∧ _ ∧ _ ∧ _ ∧ _ ∧ S3 w w.heap.size [.bool (qn p), .slice A (digs (qt p)).length c, .slice D (digs (qd p)).length d] [.bool (qn q), .slice E (digs (qt q)).length e0, .slice H (digs (qd q)).length h0] 3 _).2.2.2.2.2.2.2; refine (hR A7 A6 c7 c6 _ O7.rw (st (show RW wo.drew wo.drew.heap.size A6 c6 (digs B) from R6) B7)).mono ?_; rintro e w8 ⟨A8, c8, A9, c9, rfl, O8, O9, BX⟩; have kk := hh.nx BX; have B8 := BX))
      have s6 := kk.2.2.1.put3 (.bool (qn (p + q))) (.slice A8 (digs (qt (p + q))).length c8) (.slice A9 (digs (qd (p + q))).length c9)
      have hb6 := hh.2.2.1.2
      have B6 := put3_below (b := w.heap.size + 2) kk.2.2.2 (by omega) (.bool (qn (p + q))) (.slice A8 (digs (qt (p + q))).length c8) (.slice A9 (digs (qd (p + q))).length c9)
      have Oa := O8.put3 (b := w.heap.size + 2) hb6 (.bool (qn (p + q))) (.slice A8 (digs (qt (p + q))).length c8) (.slice A9 (digs (qd (p + q))).length c9)
      have Ob := O9.put3 (b := w.heap.size + 2) hb6 (.bool (qn (p + q))) (.slice A8 (digs (qt (p + q))).length c8) (.slice A9 (digs (qd (p + q))).length c9)
      have r0 := s6.cell 0
      have r1 := s6.cell 1
      have r2 := s6.cell 2
      unfold wr3 at s6 B6 Oa Ob r0 r1 r2
      go_wp2_with fail
      refine bodyPost_ret (v := .agg #[.bool (qn (p + q)), .slice A8 (digs (qt (p + q))).length c8, .slice A9 (digs (qd (p + q))).length c9]) (by simp [results, r0, r1, r2, go_sem]) rfl ?_
      exact ⟨A8, c8, A9, c9, rfl, Oa.base_le (by omega), Ob.base_le (by omega), B6⟩
end Go.Proofs.YtbgggepdlkbpoaaGreatDoor
namespace Go.Proofs.YtbgggepdlkbpoaaGreatDoor

/-- the whole part of the square root -/
def isq (N : Nat) : Nat := if _h : N = 0 then 0 else if (2 * isq (N / 4) + 1) * (2 * isq (N / 4) + 1) ≤ N then 2 * isq (N / 4) + 1 else 2 * isq (N / 4)
termination_by N
decreasing_by all_goals omega

theorem sq_two (m : Nat) : (2 * m) * (2 * m) = 4 * (m * m) := by rw [Nat.mul_mul_mul_comm]
theorem isq_spec (N : Nat) : isq N * isq N ≤ N ∧ N < (isq N + 1) * (isq N + 1) := by
  induction N using Nat.strongRecOn with
  | _ N ih =>
    by_cases h : N = 0
    · subst h; rw [isq, dif_pos rfl]; omega
    · obtain ⟨h1, h2⟩ := ih (N / 4) (by omega)
      rw [isq, dif_neg h]
      generalize isq (N / 4) = m at *
      have e1 := sq_two m
      have e2 := sq_two (m + 1)
      rw [show 2 * (m + 1) = 2 * m + 1 + 1 by omega] at e2
      split
      · refine ⟨by assumption, ?_⟩
        rw [e2]; omega
      · refine ⟨by rw [e1]; omega, by omega⟩
theorem isq_unique {N s : Nat} (h1 : s * s ≤ N) (h2 : N < (s + 1) * (s + 1)) : s = isq N := by
  obtain ⟨h3, h4⟩ := isq_spec N
  generalize isq N = t at *
  rcases Nat.lt_trichotomy s t with h | h | h
  · have := Nat.mul_le_mul (show s + 1 ≤ t from h) (show s + 1 ≤ t from h); omega
  · exact h
  · have := Nat.mul_le_mul (show t + 1 ≤ s from h) (show t + 1 ≤ s from h); omega
theorem isq_zero : isq 0 = 0 := by rw [isq, dif_pos rfl]
theorem isq_pos {N : Nat} (h : N ≠ 0) : 0 < isq N := by
  rcases Nat.eq_zero_or_pos (isq N) with h0 | h0
  · have := (isq_spec N).2; rw [h0] at this; omega
  · exact h0
theorem isq_le (N : Nat) : isq N ≤ N := by
  have h := (isq_spec N).1
  rcases Nat.eq_zero_or_pos (isq N) with h0 | h0
  · omega
  · have := Nat.le_mul_of_pos_right (isq N) h0; omega
theorem isq_sq (n : Nat) : isq (n * n) = n := (isq_unique (Nat.le_refl _) (Nat.mul_lt_mul_of_lt_of_le (Nat.lt_succ_self n) (Nat.le_succ n) (Nat.succ_pos n))).symm

theorem four_mul_le (x y : Nat) : 4 * (x * y) ≤ (x + y) * (x + y) := by
  have key : ∀ x d : Nat, 4 * (x * (x + d)) ≤ (x + (x + d)) * (x + (x + d)) := by
    intro x d
    rw [show x + (x + d) = 2 * x + d by omega, Nat.add_mul, Nat.mul_add (2 * x), Nat.mul_add d, Nat.mul_add x, Nat.mul_add 4, sq_two, Nat.mul_comm d (2 * x), Nat.mul_assoc 2 x d]
    omega
  rcases Nat.le_total x y with h | h
  · obtain ⟨d, rfl⟩ := Nat.exists_eq_add_of_le h; exact key x d
  · obtain ⟨d, rfl⟩ := Nat.exists_eq_add_of_le h
    rw [Nat.mul_comm (y + d) y, Nat.add_comm (y + d) y]; exact key y d
def nxt (N s : Nat) : Nat := (s + N / s) / 2
theorem newton_step {N s : Nat} (hs : 0 < s) : N < (nxt N s + 1) * (nxt N s + 1) := by
  unfold nxt
  have h1 : N < s * (N / s + 1) := Nat.lt_mul_div_succ N hs
  have h2 := four_mul_le s (N / s + 1)
  generalize N / s = q at *
  have h3 : s + (q + 1) ≤ 2 * ((s + q) / 2 + 1) := by omega
  have h4 := Nat.mul_le_mul h3 h3
  rw [sq_two] at h4
  omega
theorem newton_exit {N s : Nat} (h : s ≤ nxt N s) : s * s ≤ N := by
  unfold nxt at h
  have h1 : s ≤ N / s := by omega
  have h2 := Nat.mul_le_mul_left s h1
  have h3 := Nat.mul_div_le N s
  omega
theorem nxt_pos {N s : Nat} (hN : N ≠ 0) (hs : 0 < s) : 0 < nxt N s := by
  unfold nxt
  rcases Nat.lt_or_ge s 2 with h | h
  · obtain rfl : s = 1 := by omega
    rw [Nat.div_one]; omega
  · generalize N / s = q
    omega
theorem pow_sq {N k : Nat} (h : blen N ≤ 2 * k) : N < 2 ^ k * 2 ^ k := by
  rw [← Nat.pow_add, show k + k = 2 * k by omega]
  exact blen_le.1 h
theorem newton_start {N k : Nat} (h : blen N ≤ 2 * k) : N < (2 ^ k + 1) * (2 ^ k + 1) := by
  have h1 := pow_sq h
  have := Nat.mul_le_mul (Nat.le_add_right (2 ^ k) 1) (Nat.le_add_right (2 ^ k) 1)
  omega

/-- bit by bit from the highest -/
def Rt (N s left k : Nat) : Prop := s * s + left = N ∧ N < (s + 2 ^ k) * (s + 2 ^ k)
def rmore (s k : Nat) : Nat := s * 2 ^ (k + 1) + 2 ^ (2 * k)
theorem sq_add (s k : Nat) : (s + 2 ^ k) * (s + 2 ^ k) = s * s + rmore s k := by
  unfold rmore
  have e1 : 2 ^ (2 * k) = 2 ^ k * 2 ^ k := by rw [← Nat.pow_add]; congr 1; omega
  rw [e1, Nat.pow_succ]
  generalize 2 ^ k = p
  rw [Nat.add_mul, Nat.mul_add, Nat.mul_add, ← Nat.mul_assoc, Nat.mul_comm p s]
  omega
theorem rt_yes {N s left k : Nat} (h : Rt N s left (k + 1)) (hm : rmore s k ≤ left) : Rt N (s + 2 ^ k) (left - rmore s k) k := by
  refine ⟨?_, ?_⟩
  · have := h.1; rw [sq_add]; omega
  · rw [show s + 2 ^ k + 2 ^ k = s + 2 ^ (k + 1) by rw [Nat.pow_succ]; omega]; exact h.2
theorem rt_no {N s left k : Nat} (h : Rt N s left (k + 1)) (hm : left < rmore s k) : Rt N s left k := by
  refine ⟨h.1, ?_⟩
  have := h.1; rw [sq_add]; omega
theorem rt_end {N s left : Nat} (h : Rt N s left 0) : s = isq N ∧ left = N - isq N * isq N := by
  have h1 : s = isq N := isq_unique (by have := h.1; omega) (by have := h.2; rwa [Nat.pow_zero] at this)
  refine ⟨h1, ?_⟩
  rw [← h1]; have := h.1; omega

/-- quotients bit by bit -/
theorem half_bit (N k : Nat) : N / 2 ^ k = 2 * (N / 2 ^ (k + 1)) + bitN N k := by
  unfold bitN
  rw [Nat.pow_succ, ← Nat.div_div_eq_div_mul]
  omega
theorem bq_no {N D k : Nat} (hD : 0 < D) (h : 2 * (N / 2 ^ (k + 1) % D) + bitN N k < D) : N / 2 ^ k / D = 2 * (N / 2 ^ (k + 1) / D) ∧ N / 2 ^ k % D = 2 * (N / 2 ^ (k + 1) % D) + bitN N k := by
  have e := half_bit N k
  generalize N / 2 ^ k = x at *
  generalize N / 2 ^ (k + 1) = y at *
  generalize bitN N k = c at *
  have h1 := Nat.div_add_mod y D
  generalize y / D = u at *
  generalize y % D = r at *
  have e2 : x = (2 * r + c) + D * (2 * u) := by rw [e, ← h1, Nat.mul_add, ← Nat.mul_assoc, Nat.mul_comm 2 D, Nat.mul_assoc]; omega
  rw [e2, Nat.add_mul_div_left _ _ hD, Nat.add_mul_mod_self_left, Nat.div_eq_of_lt h, Nat.mod_eq_of_lt h]
  exact ⟨by omega, rfl⟩
theorem bq_yes {N D k : Nat} (hD : 0 < D) (hb : bitN N k ≤ 1) (h : D ≤ 2 * (N / 2 ^ (k + 1) % D) + bitN N k) :
    N / 2 ^ k / D = 2 * (N / 2 ^ (k + 1) / D) + 1 ∧ N / 2 ^ k % D = 2 * (N / 2 ^ (k + 1) % D) + bitN N k - D := by
  have e := half_bit N k
  generalize N / 2 ^ k = x at *
  generalize N / 2 ^ (k + 1) = y at *
  generalize bitN N k = c at *
  have h1 := Nat.div_add_mod y D
  have h2 := Nat.mod_lt y hD
  generalize y / D = u at *
  generalize y % D = r at *
  obtain ⟨z, hz⟩ : ∃ z, z = 2 * r + c - D := ⟨_, rfl⟩
  have hz1 : z < D := by omega
  have e2 : x = z + D * (2 * u + 1) := by
    rw [e, ← h1, Nat.mul_add D, Nat.mul_one, Nat.mul_add 2, ← Nat.mul_assoc, Nat.mul_comm 2 D, Nat.mul_assoc]; omega
  rw [← hz, e2, Nat.add_mul_div_left _ _ hD, Nat.add_mul_mod_self_left, Nat.div_eq_of_lt hz1, Nat.mod_eq_of_lt hz1]
  exact ⟨by omega, rfl⟩
/-- a bit is set where there is none yet -/
theorem or_bit {o : List Nat} {k y : Nat} (hb : B32 o) (h : val o = 2 ^ (k + 1) * y) (hk : k / 32 < o.length) :
    wd o (k / 32) ||| 2 ^ (k % 32) = wd o (k / 32) + 2 ^ (k % 32) ∧ wd o (k / 32) + 2 ^ (k % 32) < 4294967296 ∧ val (o.set (k / 32) (wd o (k / 32) + 2 ^ (k % 32))) = val o + 2 ^ k := by
  have hs : k % 32 < 32 := Nat.mod_lt _ (by omega)
  have h1 := val_set (o := o) (k := k / 32) (wd o (k / 32) + 2 ^ (k % 32)) hk
  have e0 : 2 ^ k = 2 ^ (k % 32) * Wp (k / 32) := by rw [Wp_eq, ← Nat.pow_add]; congr 1; omega
  have e1 : 2 ^ (k + 1) * y = Wp (k / 32) * (2 ^ (k % 32 + 1) * y) := by
    rw [Wp_eq, ← Nat.mul_assoc, ← Nat.pow_add]; congr 2; omega
  have e2 : (4294967296 : Nat) = 2 ^ (k % 32 + 1) * 2 ^ (31 - k % 32) := by
    rw [← Nat.pow_add, show k % 32 + 1 + (31 - k % 32) = 32 by omega]
  have e3 : wd o (k / 32) = 2 ^ (k % 32 + 1) * (y % 2 ^ (31 - k % 32)) := by
    rw [wd_val hb, h, e1, Nat.mul_div_cancel_left _ (Wp_pos _), e2, Nat.mul_mod_mul_left]
  have e4 := Nat.mod_lt y (show 0 < 2 ^ (31 - k % 32) from Nat.pow_pos (by omega))
  have e5 : (2 : Nat) ^ (k % 32) < 2 ^ (k % 32 + 1) := Nat.pow_lt_pow_right (by omega) (by omega)
  refine ⟨?_, ?_, ?_⟩
  · rw [e3]; exact (Nat.two_pow_add_eq_or_of_lt e5 _).symm
  · rw [e3, e2]
    have := Nat.mul_le_mul_left (2 ^ (k % 32 + 1)) (show y % 2 ^ (31 - k % 32) + 1 ≤ 2 ^ (31 - k % 32) from e4)
    rw [Nat.mul_add, Nat.mul_one] at this
    omega
  · rw [Nat.add_mul, ← e0] at h1; omega
/-- twice, and a bit -/
def dbw (x c : Nat) : Nat := (2 * x + c) % 4294967296
def dbc (x : Nat) : Nat := x / 2147483648
theorem dbc_le {x : Nat} (h : x < 4294967296) : dbc x ≤ 1 := by unfold dbc; omega
theorem dbw_lt (x c : Nat) : dbw x c < 4294967296 := Nat.mod_lt _ (by omega)
theorem dbw_or {x c : Nat} (hc : c ≤ 1) : (x * 2 % 4294967296) ||| c = dbw x c := by
  unfold dbw
  have e1 : x * 2 % 4294967296 = 2 ^ 1 * (x % 2147483648) := by omega
  rw [e1, ← Nat.two_pow_add_eq_or_of_lt (show c < 2 ^ 1 by omega)]
  omega
theorem dbl_step {o a : List Nat} {i c bit : Nat} (hi : i < a.length) (hl : o.length = i) (hc : c ≤ 1) (h : val o + c * Wp i = 2 * val (a.take i) + bit) :
    val (o ++ [dbw (wd a i) c]) + dbc (wd a i) * Wp (i + 1) = 2 * val (a.take (i + 1)) + bit := by
  rw [val_append, val_one, hl, take_succ_wd hi, val_append, val_one, List.length_take, Nat.min_eq_left (by omega), Wp_succ]
  have e : dbw (wd a i) c + dbc (wd a i) * 4294967296 = 2 * wd a i + c := by unfold dbw dbc; omega
  have e2 : Wp i * dbw (wd a i) c + dbc (wd a i) * (4294967296 * Wp i) = Wp i * (2 * wd a i + c) := by
    rw [← e, Nat.mul_add, Nat.mul_comm (Wp i) (dbc _ * _), Nat.mul_assoc]
  rw [Nat.mul_add, Nat.mul_comm c] at *
  rw [show Wp i * (2 * wd a i) = 2 * (Wp i * wd a i) by rw [← Nat.mul_assoc, Nat.mul_comm (Wp i) 2, Nat.mul_assoc]] at e2
  omega
end Go.Proofs.YtbgggepdlkbpoaaGreatDoor
namespace Go.Proofs.YtbgggepdlkbpoaaGreatDoor
open Go.RowKit

theorem dbc_int (x : Nat) : (x : Int) / 2147483648 = (dbc x : Int) := by unfold dbc; simp
theorem dbw_int {x c : Nat} (_hx : x < 4294967296) (hc : c ≤ 1) : bits .or .u32 ((x : Int) * 2 % 4294967296) (c : Int) = (dbw x c : Int) := by
  have h : (x : Int) * 2 % 4294967296 = ((x * 2 % 4294967296 : Nat) : Int) := by omega
  rw [h, u32_or_nat _ _ (by omega) (by omega), dbw_or hc]
end Go.Proofs.YtbgggepdlkbpoaaGreatDoor
namespace Go.Proofs.YtbgggepdlkbpoaaGreatDoor
open Go.RowKit

end Go.Proofs.YtbgggepdlkbpoaaGreatDoor
