/- Merged texts: Rat, QRefD, RatA, RatR. -/
import Derived.Test.YtkjfpaommbjgbaaGD
import Derived.Test.YtkjfpaommbjgbaaGA
import Derived.Deep.RegionHeld3
import Derived.Deep.DeepCutAuto
import Derived.Deep.MidRow
namespace Go.Proofs.Ytkjfpaommbjgbaa
open Go.RowKit

theorem bt {w w1 w2 : World} (h1 : Below w.heap.size w w1) (h2 : Below w1.heap.size w1 w2) : Below w.heap.size w w2 := h1.trans (h2.mono h1.size)
theorem st {w w' : World} {A : Option Addr} {c : Nat} {l : List Nat} (h : RW w w.heap.size A c l) (b : Below w.heap.size w w') : RW w' w'.heap.size A c l := h.step b b.size
theorem stp {w w' : World} {A : Option Addr} {c : Nat} {l : List Nat} (h : RW w w.heap.size A c l) (b : Below w.heap.size w w') : RW w' w'.heap.size A c l := st h b
theorem bal (w : World) (o : Obj) : Below w.heap.size w (w.alloc o) := (Below.refl _ _).alloc (Nat.le_refl _) _
/-- a struct's cells in a block -/
def SB (w : World) (b : Nat) (vs : List Value) : Prop := (∀ i v, vs[i]? = some v → w.cell? ⟨b, i, none⟩ = some v ∧ w.frozen? ⟨b, i, none⟩ = false) ∧ b < w.heap.size
theorem SB.new (w : World) (vs : List Value) (t : TypeId) : SB (w.alloc (.cells vs.toArray t)) w.heap.size vs := by
  have h0 := heap_alloc_new w (.cells vs.toArray t)
  refine ⟨fun i v hv => ⟨?_, ?_⟩, by simp⟩
  · rw [cell_of_row _ _ _ _ _ _ h0]; simpa using hv
  · unfold World.frozen?; rw [h0]; rfl
section
variable {w w' : World} {b B : Nat} {vs : List Value}
theorem SB.cell (h : SB w b vs) (i : Nat) {v : Value} (hv : vs[i]? = some v := by rfl) : w.cell? ⟨b, i, none⟩ = some v := (h.1 i v hv).1
theorem SB.frozen (h : SB w b vs) (i : Nat) {v : Value} (hv : vs[i]? = some v := by rfl) : w.frozen? ⟨b, i, none⟩ = false := (h.1 i v hv).2
theorem SB.lt (h : SB w b vs) : b < w.heap.size := h.2
theorem SB.below (h : SB w b vs) (hb : Below B w w') (hB : b < B) : SB w' b vs :=
  ⟨fun i v hv => ⟨(hb.cell hB).trans (h.1 i v hv).1, (hb.frozen hB).trans (h.1 i v hv).2⟩, Nat.lt_of_lt_of_le h.2 hb.size⟩
theorem SB.nx (h : SB w b vs) (hb : Below w.heap.size w w') : SB w' b vs := h.below hb h.2
theorem SB.far (h : SB w b vs) {p : Addr} (hp : b ≠ p.block) (v : Value) : SB (w.setCell p v) b vs :=
  ⟨fun i x hx => ⟨(World.cell?_setCell_other w _ _ v (fun e => hp (by rw [e]))).trans (h.1 i x hx).1, (World.frozen?_setCell w _ _ v).trans (h.1 i x hx).2⟩, by simpa [World.setCell] using h.2⟩
theorem SB.set (h : SB w b vs) (k : Nat) (v : Value) : SB (w.setCell ⟨b, k, none⟩ v) b (vs.set k v) := by
  refine ⟨fun i x hx => ?_, by simpa [World.setCell] using h.2⟩
  rw [List.getElem?_set] at hx
  split at hx
  · rename_i e; subst e
    split at hx
    · rename_i hl
      injection hx with hx; subst hx
      have h0 := h.1 k _ (List.getElem?_eq_getElem hl)
      exact ⟨World.cell?_setCell_same w _ v h0.1, (World.frozen?_setCell w _ _ v).trans h0.2⟩
    · cases hx
  · rename_i e
    exact ⟨(World.cell?_setCell_other w _ _ v (fun e2 => e (by cases e2; rfl))).trans (h.1 i x hx).1, (World.frozen?_setCell w _ _ v).trans (h.1 i x hx).2⟩
end
/-- three cells written -/
abbrev wr3 (w : World) (b : Nat) (x y z : Value) : World := ((w.setCell ⟨b, 0, none⟩ x).setCell ⟨b, 1, none⟩ y).setCell ⟨b, 2, none⟩ z
theorem SB.put3 {w : World} {b : Nat} {a b0 c : Value} (h : SB w b [a, b0, c]) (x y z : Value) : SB (Go.Proofs.Ytkjfpaommbjgbaa.wr3 w b x y z) b [x, y, z] := ((h.set 0 x).set 1 y).set 2 z
theorem put3_below {B b : Nat} {a w : World} (h : Below B a w) (hb : B ≤ b) (x y z : Value) : Below B a (wr3 w b x y z) :=
  ((h.setCell (p := ⟨b, 0, none⟩) hb _).setCell (p := ⟨b, 1, none⟩) hb _).setCell (p := ⟨b, 2, none⟩) hb _
theorem wr3_below {B b : Nat} {a w : World} (h : Below B a w) (hb : B ≤ b) (x y z : Value) : Below B a (wr3 w b x y z) :=
  ((h.setCell (p := ⟨b, 0, none⟩) hb _).setCell (p := ⟨b, 1, none⟩) hb _).setCell (p := ⟨b, 2, none⟩) hb _
theorem OW.put3 {w : World} {base b : Nat} {A : Option Addr} {c : Nat} {l : List Nat} (h : OW w base A c l) (hb : b < base) (x y z : Value) : OW (wr3 w b x y z) base A c l := by
  have hn : ∀ g, A = some ⟨g, 0, none⟩ → g ≠ b := fun g hg => by subst hg; have := h.lt.1; omega
  exact ((h.far (p := ⟨b, 0, none⟩) hn _).far (p := ⟨b, 1, none⟩) hn _).far (p := ⟨b, 2, none⟩) hn _

/-- what a cell holds -/
def cv (w : World) (b i : Nat) : Value := (w.cell? ⟨b, i, none⟩).getD (.bool false)
theorem cv_of {w : World} {b i : Nat} {v : Value} (h : w.cell? ⟨b, i, none⟩ = some v) : w.cell? ⟨b, i, none⟩ = some (cv w b i) := by unfold cv; rw [h]; rfl
/-- a result's n cells stand in block r -/
def RC (w : World) (r n : Nat) : Prop := (∀ i, i < n → w.cell? ⟨r, i, none⟩ = some (cv w r i) ∧ w.frozen? ⟨r, i, none⟩ = false) ∧ r < w.heap.size
theorem RC.cell {w : World} {r n : Nat} (h : RC w r n) (i : Nat) (hi : i < n := by decide) : w.cell? ⟨r, i, none⟩ = some (cv w r i) := (h.1 i hi).1
theorem RC.frozen {w : World} {r n : Nat} (h : RC w r n) (i : Nat) (hi : i < n := by decide) : w.frozen? ⟨r, i, none⟩ = false := (h.1 i hi).2
theorem SB.rc {w : World} {b : Nat} {vs : List Value} (h : SB w b vs) {n : Nat} (hn : n = vs.length := by rfl) : RC w b n :=
  ⟨fun i hi => ⟨cv_of (h.1 i _ (List.getElem?_eq_getElem (by omega))).1, (h.1 i _ (List.getElem?_eq_getElem (by omega))).2⟩, h.2⟩
theorem RC.sb {w : World} {r n : Nat} (h : RC w r n) : SB w r ((List.range n).map (cv w r)) := by
  refine ⟨fun i v hv => ?_, h.2⟩
  rw [List.getElem?_map] at hv
  obtain ⟨k, hk, rfl⟩ := Option.map_eq_some_iff.1 hv
  rw [List.getElem?_eq_some_iff] at hk
  obtain ⟨hl, rfl⟩ := hk
  rw [List.length_range] at hl
  rw [List.getElem_range]
  exact h.1 i hl
theorem RC.nx {w w' : World} {r n : Nat} (h : RC w r n) (hb : Below w.heap.size w w') : RC w' r n := (h.sb.nx hb).rc (by simp)
theorem RC.put3 {w : World} {r : Nat} (h : RC w r 3) (x y z : Value) : SB (wr3 w r x y z) r [x, y, z] := SB.put3 (a := cv w r 0) (b0 := cv w r 1) (c := cv w r 2) h.sb x y z
/-- six cells written -/
abbrev wr6 (w : World) (b : Nat) (x y z x' y' z' : Value) : World := (((wr3 w b x y z).setCell ⟨b, 3, none⟩ x').setCell ⟨b, 4, none⟩ y').setCell ⟨b, 5, none⟩ z'
theorem wr6_below {B b : Nat} {a w : World} (h : Below B a w) (hb : B ≤ b) (x y z x' y' z' : Value) : Below B a (wr6 w b x y z x' y' z') :=
  (((wr3_below h hb x y z).setCell (p := ⟨b, 3, none⟩) hb _).setCell (p := ⟨b, 4, none⟩) hb _).setCell (p := ⟨b, 5, none⟩) hb _
theorem OW.put6 {w : World} {base b : Nat} {A : Option Addr} {c : Nat} {l : List Nat} (h : OW w base A c l) (hb : b < base) (x y z x' y' z' : Value) : OW (wr6 w b x y z x' y' z') base A c l := by
  have hn : ∀ g, A = some ⟨g, 0, none⟩ → g ≠ b := fun g hg => by subst hg; have := h.lt.1; omega
  exact (((h.put3 hb x y z).far (p := ⟨b, 3, none⟩) hn _).far (p := ⟨b, 4, none⟩) hn _).far (p := ⟨b, 5, none⟩) hn _
theorem RC.put6 {w : World} {r : Nat} (h : RC w r 6) (x y z x' y' z' : Value) : SB (wr6 w r x y z x' y' z') r [x, y, z, x', y', z'] :=
  ((((((show SB w r [cv w r 0, cv w r 1, cv w r 2, cv w r 3, cv w r 4, cv w r 5] from h.sb).set 0 x).set 1 y).set 2 z).set 3 x').set 4 y').set 5 z'
theorem infoN : (Try.prog.info? 26).map (·.size) = some 6 := by kernel_rfl
/-- a number stored into a result's cells, as one step -/
theorem wp_st6 {ops : Array Oper} {rest : List Oper} {o : Oper} {a : Act} {w : World} {Q : Exit → Act → World → Prop} (hgd : o.guard = none) (x y : Operand) (ho : o.op = .store 26 x y)
    (b : Nat) (hx : a.eval x = .pointer (some ⟨b, 0, none⟩)) (x0 x1 x2 x3 x4 x5 : Value) (hy : a.eval y = .agg #[x0, x1, x2, x3, x4, x5]) (hc : RC w b 6) (g0 : x0.oneCell' = true) (g1 : x1.oneCell' = true) (g2 : x2.oneCell' = true) (g3 : x3.oneCell' = true) (g4 : x4.oneCell' = true) (g5 : x5.oneCell' = true)
    (h : wpList Try.prog ops Q rest (a.put o.dst undef) (wr6 w b x0 x1 x2 x3 x4 x5)) : wpList Try.prog ops Q (o :: rest) a w :=
  wpList_store_mid hgd 26 x y ho b 0 #[x0, x1, x2, x3, x4, x5] hx hy
    (fun j hj => by
      have h2 := hc.1 j hj
      rw [Nat.zero_add]
      exact ⟨by rw [h2.1]; rfl, h2.2⟩) infoN (all_oneCell_toArray (cs := [x0, x1, x2, x3, x4, x5]) (fun v hv => by
        simp only [List.mem_cons, List.not_mem_nil, or_false] at hv
        rcases hv with rfl | rfl | rfl | rfl | rfl | rfl <;> assumption)) h
/-- what a region keeps: one struct and a result's cells -/
def S2 (w : World) (b : Nat) (l1 : List Value) (n : Nat) (w' : World) : Prop := SB w' b l1 ∧ RC w' (b + 1) n ∧ Below b w w'
theorem S2.nx {w w1 w2 : World} {b n : Nat} {l1 : List Value} (h : S2 w b l1 n w1) (hb : Below w1.heap.size w1 w2) : S2 w b l1 n w2 :=
  ⟨h.1.nx hb, h.2.1.nx hb, h.2.2.trans (hb.mono (Nat.le_of_lt h.1.2))⟩
theorem S2.dr {w w1 : World} {b n : Nat} {l1 : List Value} (h : S2 w b l1 n w1) : S2 w b l1 n w1.drew := ⟨h.1, h.2.1, bdN h.2.2 1⟩
theorem SB.wr3 {w : World} {b r : Nat} {l : List Value} (h : SB w b l) (hb : b ≠ r) (x y z : Value) : SB (wr3 w r x y z) b l :=
  ((h.far (p := ⟨r, 0, none⟩) hb x).far (p := ⟨r, 1, none⟩) hb y).far (p := ⟨r, 2, none⟩) hb z
theorem SB.wr6 {w : World} {b r : Nat} {l : List Value} (h : SB w b l) (hb : b ≠ r) (x y z x' y' z' : Value) : SB (wr6 w r x y z x' y' z') b l :=
  (((h.wr3 hb x y z).far (p := ⟨r, 3, none⟩) hb x').far (p := ⟨r, 4, none⟩) hb y').far (p := ⟨r, 5, none⟩) hb z'
theorem S2.put {w w1 : World} {b : Nat} {l1 : List Value} (h : S2 w b l1 3 w1) (x y z : Value) : S2 w b l1 3 (Go.Proofs.Ytkjfpaommbjgbaa.wr3 w1 (b + 1) x y z) :=
  ⟨h.1.wr3 (by omega) x y z, (h.2.1.put3 x y z).rc, wr3_below h.2.2 (by omega) x y z⟩
theorem S2.put6 {w w1 : World} {b : Nat} {l1 : List Value} (h : S2 w b l1 6 w1) (x y z x' y' z' : Value) : S2 w b l1 6 (Go.Proofs.Ytkjfpaommbjgbaa.wr6 w1 (b + 1) x y z x' y' z') :=
  ⟨h.1.wr6 (by omega) x y z x' y' z', (h.2.1.put6 x y z x' y' z').rc, wr6_below h.2.2 (by omega) x y z x' y' z'⟩
theorem S2.new (w : World) (l1 l3 : List Value) (t1 t3 : TypeId) (n : Nat) (hn : n = l3.length := by rfl) : S2 w w.heap.size l1 n ((w.alloc (.cells l1.toArray t1)).alloc (.cells l3.toArray t3)) := by
  have z1 : (w.alloc (.cells l1.toArray t1)).heap.size = w.heap.size + 1 := by simp
  have s1 := SB.new w l1 t1
  have s3 := SB.new (w.alloc (.cells l1.toArray t1)) l3 t3
  rw [z1] at s3
  have B1 := bal w (.cells l1.toArray t1)
  have B3 := bal (w.alloc (.cells l1.toArray t1)) (.cells l3.toArray t3)
  exact ⟨s1.nx B3, s3.rc hn, bt B1 B3⟩
/-- what a region keeps: two structs and a result's cells -/
def S3 (w : World) (b : Nat) (l1 l2 : List Value) (n : Nat) (w' : World) : Prop := SB w' b l1 ∧ SB w' (b + 1) l2 ∧ RC w' (b + 2) n ∧ Below b w w'
theorem S3.nx {w w1 w2 : World} {b n : Nat} {l1 l2 : List Value} (h : S3 w b l1 l2 n w1) (hb : Below w1.heap.size w1 w2) : S3 w b l1 l2 n w2 :=
  ⟨h.1.nx hb, h.2.1.nx hb, h.2.2.1.nx hb, h.2.2.2.trans (hb.mono (Nat.le_of_lt h.1.2))⟩
theorem S3.put {w w1 : World} {b : Nat} {l1 l2 : List Value} (h : S3 w b l1 l2 3 w1) (x y z : Value) : S3 w b l1 l2 3 (wr3 w1 (b + 2) x y z) :=
  ⟨((h.1.far (p := ⟨b + 2, 0, none⟩) (by simp) x).far (p := ⟨b + 2, 1, none⟩) (by simp) y).far (p := ⟨b + 2, 2, none⟩) (by simp) z,
   ((h.2.1.far (p := ⟨b + 2, 0, none⟩) (by simp) x).far (p := ⟨b + 2, 1, none⟩) (by simp) y).far (p := ⟨b + 2, 2, none⟩) (by simp) z,
   (h.2.2.1.put3 x y z).rc, wr3_below h.2.2.2 (by omega) x y z⟩
theorem S3.dr {w w1 : World} {b n : Nat} {l1 l2 : List Value} (h : S3 w b l1 l2 n w1) : S3 w b l1 l2 n w1.drew := ⟨h.1, h.2.1, h.2.2.1, bdN h.2.2.2 1⟩
theorem S3.new (w : World) (l1 l2 l3 : List Value) (t1 t2 t3 : TypeId) (n : Nat) (hn : n = l3.length := by rfl) : S3 w w.heap.size l1 l2 n (((w.alloc (.cells l1.toArray t1)).alloc (.cells l2.toArray t2)).alloc (.cells l3.toArray t3)) := by
  have z1 : (w.alloc (.cells l1.toArray t1)).heap.size = w.heap.size + 1 := by simp
  have z2 : ((w.alloc (.cells l1.toArray t1)).alloc (.cells l2.toArray t2)).heap.size = w.heap.size + 2 := by simp
  have s1 := SB.new w l1 t1
  have s2 := SB.new (w.alloc (.cells l1.toArray t1)) l2 t2
  have s3 := SB.new ((w.alloc (.cells l1.toArray t1)).alloc (.cells l2.toArray t2)) l3 t3
  rw [z1] at s2
  rw [z2] at s3
  have B1 := bal w (.cells l1.toArray t1)
  have B2 := bal (w.alloc (.cells l1.toArray t1)) (.cells l2.toArray t2)
  have B3 := bal ((w.alloc (.cells l1.toArray t1)).alloc (.cells l2.toArray t2)) (.cells l3.toArray t3)
  exact ⟨(s1.nx B2).nx B3, s2.nx B3, s3.rc hn, bt (bt B1 B2) B3⟩

/-- a fraction's value -/
def fq (q : Rat) (A : Option Addr) (c : Nat) (D : Option Addr) (d : Nat) : Value := .agg #[.bool (qn q), .slice A (digs (qt q)).length c, .slice D (digs (qd q)).length d]
/-- it can be read -/
def RQ (w : World) (B : Nat) (v : Value) (q : Rat) : Prop := ∃ A c D d, v = .agg #[.bool (qn q), .slice A (digs (qt q)).length c, .slice D (digs (qd q)).length d] ∧ RW w B A c (digs (qt q)) ∧ RW w B D d (digs (qd q))
/-- it is the call's own -/
def OQ (w : World) (base : Nat) (v : Value) (q : Rat) : Prop := ∃ A c D d, v = .agg #[.bool (qn q), .slice A (digs (qt q)).length c, .slice D (digs (qd q)).length d] ∧ OW w base A c (digs (qt q)) ∧ OW w base D d (digs (qd q))
section
variable {w w' : World} {B B' base b : Nat} {v : Value} {q : Rat}
theorem RQ.step (h : RQ w B v q) (hb : Below B w w') (hB : B ≤ B') : RQ w' B' v q := by
  obtain ⟨A, c, D, d, e, h1, h2⟩ := h
  exact ⟨A, c, D, d, e, h1.step hb hB, h2.step hb hB⟩
theorem RQ.more (h : RQ w B v q) (hB : B ≤ B') : RQ w B' v q := h.step (Below.refl _ _) hB
theorem RQ.st (h : RQ w w.heap.size v q) (hb : Below w.heap.size w w') : RQ w' w'.heap.size v q := h.step hb hb.size
theorem OQ.rq (h : OQ w base v q) : RQ w w.heap.size v q := by
  obtain ⟨A, c, D, d, e, h1, h2⟩ := h
  exact ⟨A, c, D, d, e, h1.rw, h2.rw⟩
theorem OQ.base_le (h : OQ w base v q) (hb : B ≤ base) : OQ w B v q := by
  obtain ⟨A, c, D, d, e, h1, h2⟩ := h
  exact ⟨A, c, D, d, e, h1.base_le hb, h2.base_le hb⟩
theorem OQ.below (h : OQ w base v q) (hb : Below B w w') (hB : w.heap.size ≤ B) : OQ w' base v q := by
  obtain ⟨A, c, D, d, e, h1, h2⟩ := h
  exact ⟨A, c, D, d, e, h1.below hb hB, h2.below hb hB⟩
theorem OQ.put3 (h : OQ w base v q) (hb : b < base) (x y z : Value) : OQ (wr3 w b x y z) base v q := by
  obtain ⟨A, c, D, d, e, h1, h2⟩ := h
  exact ⟨A, c, D, d, e, h1.put3 hb .., h2.put3 hb ..⟩
end
/-- an answer: a fraction of the call's own -/
def RetR (w : World) (q : Rat) (e : Ending) (w' : World) : Prop := ∃ A c D d, e = .returned (.agg #[.bool (qn q), .slice A (digs (qt q)).length c, .slice D (digs (qd q)).length d]) ∧ OW w' w.heap.size A c (digs (qt q)) ∧ OW w' w.heap.size D d (digs (qd q)) ∧ Below w.heap.size w w'
end Go.Proofs.Ytkjfpaommbjgbaa
namespace Go.Proofs.Ytkjfpaommbjgbaa
open Go.RowKit


def RetO (w : World) (N : Nat) (e : Ending) (w' : World) : Prop := ∃ k, oddp N k ∧ RetW w (N / 2 ^ k) e w'
theorem bit_eq0 {n k : Nat} (h : bitN n k = 0) : ((bitN n k : Int) == 0) = true := by rw [h]; rfl
theorem bit_ne0 {n k : Nat} (h : bitN n k ≠ 0) : ((bitN n k : Int) == 0) = false := beq_eq_false_iff_ne.2 (by omega)

set_option maxHeartbeats 1000000 in
theorem rodd_any (A : Option Addr) (c n : Nat) (a : List Nat) (w : World) (hn : n = a.length) (ha : RW w w.heap.size A c a) (h0 : val a ≠ 0) (hla : a.length ≤ 30000) :
    Calls Try.prog 87 #[.slice A n c] w (RetO w (val a)) := by
  subst hn
  have hbl : blen (val a) ≤ 32 * a.length := blen_le.2 (val_lt2 ha.b32)
  have hbit := fun k hk => bit_any A c _ a w ((k : Nat) : Int) k rfl hk rfl ha
  have hdn := fun k hk => rdown_any A c _ a w k hk rfl ha (by omega)
  clear ha
  generalize val a = N at *
  go_enter Try.func87, Try.ntmps87
  go_wp2
  go_loop [3] (fun v => ∃ k : Nat, v = .int .i64 k ∧ k < blen N ∧ Hid (2 ^ k ∣ N)) (fun i => blen N - (intOf i).toNat)
  case atStart =>
    have h1 : 2 ^ 0 ∣ N := by rw [Nat.pow_zero]; exact Nat.one_dvd _
    exact ⟨0, by go_num, bit_some h0 h1, h1⟩
  case round =>
    obtain ⟨k, rfl, hk, hd⟩ := hrel
    have h1 := hbit k (by omega)
    have h2 := hdn k (by omega)
    clear hbit hdn
    by_cases hz : bitN N k = 0
    · have t0 := bit_eq0 hz
      have hd2 := bit_zero_dvd hd.out hz
      have hk2 := bit_some h0 hd2
      have HD2 := Lib.hid hd2
      clear hd2 hz
      go_wp2_with fail
      refine h1.mono ?_; rintro e w' ⟨rfl, rfl⟩
      go_wp2_with fail
      go_round
      case rel => exact ⟨k + 1, by go_num, hk2, HD2⟩
      case measure => simp [intOf]; omega
    · have t0 := bit_ne0 hz
      have HO := Lib.hid (oddp_bit hd.out hz)
      clear hz
      go_wp2_with fail
      refine h1.mono ?_; rintro e w' ⟨rfl, rfl⟩
      go_wp2_with fail
      refine h2.mono ?_; rintro e w2 ⟨A2, c2, rfl, O2, B2⟩
      go_wp2_with fail
      go_ret
      exact ⟨k, HO.out, A2, c2, rfl, O2, B2⟩

theorem blen_one_iff {x : Nat} (h : 0 < x) : blen x = 1 ↔ x = 1 := by
  have h1 := blen_le (n := x) (k := 1)
  have h2 := blen_pos (show x ≠ 0 by omega)
  constructor
  · intro h3; have := h1.1 (by omega); omega
  · intro h3; have := h1.2 (by omega); omega
theorem gcd_swap {a b k : Nat} (hb : b % 2 = 1) (h : b ≤ a) (ho : oddp (a - b) k) : Nat.gcd ((a - b) / 2 ^ k) b = Nat.gcd b a := by rw [gcd_sub hb h ho, Nat.gcd_comm]

set_option maxRecDepth 100000 in
set_option maxHeartbeats 8000000 in
theorem rdivisor_any (A D : Option Addr) (c d n m : Nat) (a b : List Nat) (w : World) (hn : n = a.length) (hm : m = b.length) (ha : RW w w.heap.size A c a) (hb : RW w w.heap.size D d b) (na : Nrm a) (nb : Nrm b)
    (hla : a.length ≤ 15000) (hlb : b.length ≤ 15000) :
    Calls Try.prog 69 #[.slice A n c, .slice D m d] w (RetW w (Nat.gcd (val a) (val b))) := by
  subst hn hm
  by_cases la0 : a.length = 0
  · have ta : ((a.length : Int) == 0) = true := by rw [la0]; rfl
    have ea : Nat.gcd (val a) (val b) = val b := by rw [List.eq_nil_of_length_eq_zero la0, show val [] = 0 from rfl, Nat.gcd_zero_left]
    have hnm := rnorm_any D d _ b w rfl hb
    rw [← ea] at hnm
    clear ea la0 ha hb
    go_enter Try.func69, Try.ntmps69
    go_wp2_with fail
    refine hnm.mono ?_; rintro e w2 ⟨A2, c2, rfl, O2, B2⟩
    go_wp2_with fail
    go_ret
    exact ⟨A2, c2, rfl, O2, B2⟩
  have ta : ((a.length : Int) == 0) = false := beq_eq_false_iff_ne.2 (by omega)
  by_cases lb0 : b.length = 0
  · have tb : ((b.length : Int) == 0) = true := by rw [lb0]; rfl
    have ea : Nat.gcd (val a) (val b) = val a := by rw [List.eq_nil_of_length_eq_zero lb0, show val [] = 0 from rfl, Nat.gcd_zero_right]
    have hnm := rnorm_any A c _ a w rfl ha
    rw [← ea] at hnm
    clear ea lb0 ha hb
    go_enter Try.func69, Try.ntmps69
    go_wp2_with fail
    refine hnm.mono ?_; rintro e w2 ⟨A2, c2, rfl, O2, B2⟩
    go_wp2_with fail
    go_ret
    exact ⟨A2, c2, rfl, O2, B2⟩
  have tb : ((b.length : Int) == 0) = false := beq_eq_false_iff_ne.2 (by omega)
  have va0 := nrm_pos na ha.b32 (by omega)
  have vb0 := nrm_pos nb hb.b32 (by omega)
  have hbl : blen (val a) ≤ 32 * a.length := blen_le.2 (val_lt2 ha.b32)
  have hba := fun k hk => bit_any A c _ a w ((k : Nat) : Int) k rfl hk rfl ha
  have hbb := fun k hk => bit_any D d _ b w ((k : Nat) : Int) k rfl hk rfl hb
  have hoa := rodd_any A c _ a w rfl ha va0 (by omega)
  have hob := fun w' h => rodd_any D d _ b w' rfl h vb0 (by omega)
  have hva : val a < Wp 15000 := Nat.lt_of_lt_of_le (val_lt ha.b32) (Wp_mono hla)
  have hvb : val b < Wp 15000 := Nat.lt_of_lt_of_le (val_lt hb.b32) (Wp_mono hlb)
  generalize val a = N at *
  generalize val b = M at *
  have HB := Lib.hid hb
  have HVA := Lib.hid hva
  have HVB := Lib.hid hvb
  clear ha hb hva hvb la0 lb0 na nb
  go_enter Try.func69, Try.ntmps69
  go_wp2_with fail
  go_loop [5] (fun v => ∃ t : Nat, v = .int .i64 t ∧ t < blen N ∧ Hid (2 ^ t ∣ N) ∧ Hid (2 ^ t ∣ M)) (fun i => blen N - (intOf i).toNat)
  case atStart =>
    have h1 : ∀ n, 2 ^ 0 ∣ n := fun n => by rw [Nat.pow_zero]; exact Nat.one_dvd _
    exact ⟨0, by go_num, bit_some va0 (h1 _), h1 _, h1 _⟩
  case round =>
    obtain ⟨t, rfl, ht, hd1, hd2⟩ := hrel
    have h1 := hba t (by omega)
    have h2 := hbb t (by omega)
    have ht5 : t ≤ 480000 := by omega
    clear hba hbb
    by_cases hz1 : bitN N t = 0
    · have t1 := bit_eq0 hz1
      by_cases hz2 : bitN M t = 0
      · have t2 := bit_eq0 hz2
        have e1 := bit_zero_dvd hd1.out hz1
        have e2 := Lib.hid (bit_zero_dvd hd2.out hz2)
        have hk2 := bit_some va0 e1
        have E1 := Lib.hid e1
        clear e1 hz1 hz2
        go_wp2_with fail
        refine h1.mono ?_; rintro e w' ⟨rfl, rfl⟩
        go_wp2_with fail
        refine h2.mono ?_; rintro e w' ⟨rfl, rfl⟩
        go_wp2_with fail
        go_round
        case rel => exact ⟨t + 1, by go_num, hk2, E1, e2⟩
        case measure => simp [intOf]; omega
      · have t2 := bit_ne0 hz2
        have HOR : Hid (bitN N t ≠ 0 ∨ bitN M t ≠ 0) := .inr hz2
        clear hz1 hz2
        go_wp2_with fail
        refine h1.mono ?_; rintro e w' ⟨rfl, rfl⟩
        go_wp2_with fail
        refine h2.mono ?_; rintro e w' ⟨rfl, rfl⟩
        go_wp2_with fail
        refine hoa.mono ?_; rintro e w1 ⟨i, hi, A1, c1, rfl, O1, B1⟩
        go_wp2_with fail
        refine (hob w1 (stp HB.out B1)).mono ?_; rintro e w2 ⟨j, hj, A2, c2, rfl, O2, B2⟩
        go_wp2_with fail
        have hG : Hid (Nat.gcd (N / 2 ^ i) (M / 2 ^ j) * 2 ^ t = Nat.gcd N M) := gcd_twos hd1.out hd2.out HOR.out hi hj
        have hx0 := hi.2
        have hy0 := hj.2
        have hl1 : (digs (N / 2 ^ i)).length ≤ 15000 := digs_len_le.2 (Nat.lt_of_le_of_lt (Nat.div_le_self _ _) HVA.out)
        have hl2 : (digs (M / 2 ^ j)).length ≤ 15000 := digs_len_le.2 (Nat.lt_of_le_of_lt (Nat.div_le_self _ _) HVB.out)
        have R1 := stp O1.rw B2
        have R2 := O2.rw
        have C2 := bt B1 B2
        clear hi hj hd1 hd2 h1 h2 hoa hob O1 O2 B1 B2
        generalize N / 2 ^ i = x0 at *
        generalize M / 2 ^ j = y0 at *
        go_loopg [0, 1] (x0 + y0) (fun g av bv wr => ∃ (x y : Nat) (Ax : Option Addr) (cx : Nat) (Ay : Option Addr) (cy : Nat), x + y = g ∧ av = .slice Ax (digs x).length cx ∧ bv = .slice Ay (digs y).length cy ∧ x % 2 = 1 ∧ y % 2 = 1 ∧ (digs x).length ≤ 15000 ∧ (digs y).length ≤ 15000 ∧
          RW wr wr.heap.size Ax cx (digs x) ∧ RW wr wr.heap.size Ay cy (digs y) ∧ Hid (Nat.gcd x y * 2 ^ t = Nat.gcd N M) ∧ Below w.heap.size w wr)
        case atStart => exact ⟨x0, y0, A1, c1, A2, c2, rfl, rfl, rfl, hx0, hy0, hl1, hl2, R1, R2, hG, C2⟩
        case round =>
          obtain ⟨x, y, Ax, cx, Ay, cy, rfl, rfl, rfl, hx, hy, lx, ly, Rx, Ry, hg, B⟩ := hrel
          have H1 := rorder_any Ax Ay cx cy _ _ (digs x) (digs y) wr rfl rfl Rx Ry (Nrm_digs _) (Nrm_digs _)
          rw [val_digs, val_digs] at H1
          have H2 := fun q => rsize_any Ax cx _ (digs x) (wr.drewN q) rfl (Rx.drewN q)
          have H3 := fun q => rsize_any Ay cy _ (digs y) (wr.drewN q) rfl (Ry.drewN q)
          rw [val_digs] at H2 H3
          have hbx := blen_one_iff (show 0 < x by omega)
          have hby := blen_one_iff (show 0 < y by omega)
          have H4 : ∀ w1 : World, Calls Try.prog 90 #[.slice (some ⟨w1.heap.size, 0, none⟩) 1 1, .int .i64 (t : Int)] (w1.alloc (.cells #[.int .u32 (1 : Nat)] 52)) (RetW (w1.alloc (.cells #[.int .u32 (1 : Nat)] 52)) (2 ^ t)) := fun w1 => by
            have h := rup_any (some ⟨w1.heap.size, 0, none⟩) 1 1 [1] (w1.alloc (.cells #[.int .u32 (1 : Nat)] 52)) t (by omega) rfl ((RW.one w1 52 (show 1 < 4294967296 by omega)).more (by simp)) (by simp)
            rw [val_one, Nat.one_mul] at h; exact h
          by_cases hxy : x = y
          · subst hxy
            have hcm : cmpN x x = 0 := by unfold cmpN; rw [if_neg (by omega), if_pos rfl]
            rw [hcm] at H1
            have H5 := fun q => rup_any Ax cx _ (digs x) (wr.drewN q) t (by omega) rfl (Rx.drewN q) (by omega)
            have eg : x * 2 ^ t = Nat.gcd N M := by have h := hg.out; rw [Nat.gcd_self] at h; exact h
            rw [val_digs, eg] at H5
            clear hcm hbx hby eg H2 H3 H4 Rx Ry
            go_wp2_with fail
            refine H1.mono ?_; rintro e w3 ⟨rfl, q, rfl⟩
            go_wp2_with fail
            refine (H5 q).mono ?_; rintro e w4 ⟨A4, c4, rfl, O4, B4⟩
            go_wp2_with fail
            go_ret
            exact ⟨A4, c4, rfl, O4.base_le B.size, bt (bdN B q) B4⟩
          · have hcm : cmpN x y ≠ 0 := by unfold cmpN; split <;> (try split) <;> omega
            have tcm : (cmpN x y != 0) = true := by simpa using hcm
            by_cases hx1 : x = 1
            · have t1 : ((blen x : Int) == 1) = true := by rw [hbx.2 hx1]; rfl
              have eg : 2 ^ t = Nat.gcd N M := by have h := hg.out; rw [hx1, Nat.gcd_one_left, Nat.one_mul] at h; exact h
              rw [eg] at H4
              generalize cmpN x y = cm at *
              clear hcm hbx hby eg H3 Rx Ry hx1 hxy
              generalize blen x = bx at *
              go_wp2_with fail
              refine H1.mono ?_; rintro e w3 ⟨rfl, q, rfl⟩
              go_wp2_with fail
              refine (H2 q).mono ?_; rintro e w3 ⟨rfl, rfl⟩
              go_wp2_with fail
              have Ba : Below w.heap.size w ((wr.drewN q).alloc (.cells #[.int .u32 (1 : Nat)] 52)) := (bdN B q).alloc (bdN B q).size _
              refine (H4 (wr.drewN q)).mono ?_; rintro e w4 ⟨A4, c4, rfl, O4, B4⟩
              go_wp2_with fail
              go_ret
              exact ⟨A4, c4, rfl, O4.base_le Ba.size, bt Ba B4⟩
            · have t1 : ((blen x : Int) == 1) = false := beq_eq_false_iff_ne.2 (fun h => hx1 (hbx.1 (by omega)))
              by_cases hy1 : y = 1
              · have t2 : ((blen y : Int) == 1) = true := by rw [hby.2 hy1]; rfl
                have eg : 2 ^ t = Nat.gcd N M := by have h := hg.out; rw [hy1, Nat.gcd_one_right, Nat.one_mul] at h; exact h
                rw [eg] at H4
                generalize cmpN x y = cm at *
                clear hcm hbx hby eg Rx Ry hx1 hxy hy1
                generalize blen x = bx at *
                generalize blen y = by1 at *
                go_wp2_with fail
                refine H1.mono ?_; rintro e w3 ⟨rfl, q, rfl⟩
                go_wp2_with fail
                refine (H2 q).mono ?_; rintro e w3 ⟨rfl, rfl⟩
                go_wp2_with fail
                refine (H3 q).mono ?_; rintro e w3 ⟨rfl, rfl⟩
                go_wp2_with fail
                have Ba : Below w.heap.size w ((wr.drewN q).alloc (.cells #[.int .u32 (1 : Nat)] 52)) := (bdN B q).alloc (bdN B q).size _
                refine (H4 (wr.drewN q)).mono ?_; rintro e w4 ⟨A4, c4, rfl, O4, B4⟩
                go_wp2_with fail
                go_ret
                exact ⟨A4, c4, rfl, O4.base_le Ba.size, bt Ba B4⟩
              · have t2 : ((blen y : Int) == 1) = false := beq_eq_false_iff_ne.2 (fun h => hy1 (hby.1 (by omega)))
                have H1' := fun q => rorder_any Ax Ay cx cy _ _ (digs x) (digs y) (wr.drewN q) rfl rfl (Rx.drewN q) (Ry.drewN q) (Nrm_digs _) (Nrm_digs _)
                rw [val_digs, val_digs] at H1'
                by_cases hlt : x < y
                · have hcl : cmpN x y = -1 := by unfold cmpN; rw [if_pos hlt]
                  rw [hcl] at H1 H1'
                  have hll : (digs x).length ≤ (digs y).length := len_of_le (B32_digs _) (Nrm_digs _) (by rw [val_digs, val_digs]; omega)
                  have H6 := fun w' h1 h2 => rless_any Ay Ax cy cx _ _ (digs y) (digs x) w' rfl rfl h1 h2 hll (by rw [val_digs, val_digs]; omega) (by omega)
                  rw [val_digs, val_digs] at H6
                  have hl6 : (digs (y - x)).length ≤ (digs y).length := len_of_le (B32_digs _) (Nrm_digs _) (by rw [val_digs, val_digs]; omega)
                  have H7 := fun A6 c6 w' h1 => rodd_any A6 c6 _ (digs (y - x)) w' rfl h1 (by rw [val_digs]; omega) (by omega)
                  rw [val_digs] at H7
                  have HL := Lib.hid hlt
                  clear hcm tcm hcl hbx hby H4 hx1 hxy hy1 hll hlt
                  generalize blen x = bx at *
                  generalize blen y = by1 at *
                  go_wp2_with fail
                  refine H1.mono ?_; rintro e w3 ⟨rfl, q, rfl⟩
                  go_wp2_with fail
                  refine (H2 q).mono ?_; rintro e w3 ⟨rfl, rfl⟩
                  go_wp2_with fail
                  refine (H3 q).mono ?_; rintro e w3 ⟨rfl, rfl⟩
                  go_wp2_with fail
                  refine (H1' q).mono ?_; rintro e w3 ⟨rfl, q2, rfl⟩
                  go_wp2_with fail
                  refine (H6 _ (Ry.drewN (q + q2)) (Rx.drewN (q + q2))).mono ?_; rintro e w6 ⟨A6, c6, rfl, O6, B6⟩
                  go_wp2_with fail
                  refine (H7 A6 c6 w6 O6.rw).mono ?_; rintro e w7 ⟨k, hk, A7, c7, rfl, O7, B7⟩
                  go_wp2_with fail
                  have hko := hk.2
                  have h67 := bt B6 B7
                  have hlz := odd_lt (k := k) (show 0 < x by omega) HL.out
                  have hl7 : (digs ((y - x) / 2 ^ k)).length ≤ 15000 := Nat.le_trans (len_of_le (a := digs (y - x)) (B32_digs _) (Nrm_digs _) (by rw [val_digs, val_digs]; exact Nat.div_le_self _ _)) (by omega)
                  have hg2 : Hid (Nat.gcd ((y - x) / 2 ^ k) x * 2 ^ t = Nat.gcd N M) := by show _ = _; rw [gcd_swap hx (by have := HL.out; omega) hk]; exact hg.out
                  go_roundg ((y - x) / 2 ^ k + x)
                  case measure => omega
                  case rel => exact ⟨(y - x) / 2 ^ k, x, A7, c7, Ax, cx, rfl, rfl, rfl, hko, hx, hl7, lx, O7.rw, stp (Rx.drewN (q + q2)) h67, hg2, bt (bdN B (q + q2)) h67⟩
                · have hcl : ¬ cmpN x y < 0 := by unfold cmpN; rw [if_neg hlt]; split <;> omega
                  have hll : (digs y).length ≤ (digs x).length := len_of_le (B32_digs _) (Nrm_digs _) (by rw [val_digs, val_digs]; omega)
                  have H6 := fun w' h1 h2 => rless_any Ax Ay cx cy _ _ (digs x) (digs y) w' rfl rfl h1 h2 hll (by rw [val_digs, val_digs]; omega) (by omega)
                  rw [val_digs, val_digs] at H6
                  have hl6 : (digs (x - y)).length ≤ (digs x).length := len_of_le (B32_digs _) (Nrm_digs _) (by rw [val_digs, val_digs]; omega)
                  have H7 := fun A6 c6 w' h1 => rodd_any A6 c6 _ (digs (x - y)) w' rfl h1 (by rw [val_digs]; omega) (by omega)
                  rw [val_digs] at H7
                  have HL : Hid (y < x) := by show _ < _; omega
                  generalize cmpN x y = cm at *
                  clear hcm hbx hby H4 hx1 hxy hy1 hll hlt
                  generalize blen x = bx at *
                  generalize blen y = by1 at *
                  go_wp2_with fail
                  refine H1.mono ?_; rintro e w3 ⟨rfl, q, rfl⟩
                  go_wp2_with fail
                  refine (H2 q).mono ?_; rintro e w3 ⟨rfl, rfl⟩
                  go_wp2_with fail
                  refine (H3 q).mono ?_; rintro e w3 ⟨rfl, rfl⟩
                  go_wp2_with fail
                  refine (H1' q).mono ?_; rintro e w3 ⟨rfl, q2, rfl⟩
                  go_wp2_with fail
                  refine (H6 _ (Rx.drewN (q + q2)) (Ry.drewN (q + q2))).mono ?_; rintro e w6 ⟨A6, c6, rfl, O6, B6⟩
                  go_wp2_with fail
                  refine (H7 A6 c6 w6 O6.rw).mono ?_; rintro e w7 ⟨k, hk, A7, c7, rfl, O7, B7⟩
                  go_wp2_with fail
                  have hko := hk.2
                  have h67 := bt B6 B7
                  have hlz := odd_lt (k := k) (show 0 < y by omega) HL.out
                  have hl7 : (digs ((x - y) / 2 ^ k)).length ≤ 15000 := Nat.le_trans (len_of_le (a := digs (x - y)) (B32_digs _) (Nrm_digs _) (by rw [val_digs, val_digs]; exact Nat.div_le_self _ _)) (by omega)
                  have hg2 : Hid (Nat.gcd ((x - y) / 2 ^ k) y * 2 ^ t = Nat.gcd N M) := by show _ = _; rw [gcd_sub hy (by have := HL.out; omega) hk]; exact hg.out
                  go_roundg ((x - y) / 2 ^ k + y)
                  case measure => omega
                  case rel => exact ⟨(x - y) / 2 ^ k, y, A7, c7, Ay, cy, rfl, rfl, rfl, hko, hy, hl7, ly, O7.rw, stp (Ry.drewN (q + q2)) h67, hg2, bt (bdN B (q + q2)) h67⟩
    · have t1 := bit_ne0 hz1
      have HOR : Hid (bitN N t ≠ 0 ∨ bitN M t ≠ 0) := .inl hz1
      clear hz1
      go_wp2_with fail
      refine h1.mono ?_; rintro e w' ⟨rfl, rfl⟩
      go_wp2_with fail
      refine hoa.mono ?_; rintro e w1 ⟨i, hi, A1, c1, rfl, O1, B1⟩
      go_wp2_with fail
      refine (hob w1 (stp HB.out B1)).mono ?_; rintro e w2 ⟨j, hj, A2, c2, rfl, O2, B2⟩
      go_wp2_with fail
      have hG : Hid (Nat.gcd (N / 2 ^ i) (M / 2 ^ j) * 2 ^ t = Nat.gcd N M) := gcd_twos hd1.out hd2.out HOR.out hi hj
      have hx0 := hi.2
      have hy0 := hj.2
      have hl1 : (digs (N / 2 ^ i)).length ≤ 15000 := digs_len_le.2 (Nat.lt_of_le_of_lt (Nat.div_le_self _ _) HVA.out)
      have hl2 : (digs (M / 2 ^ j)).length ≤ 15000 := digs_len_le.2 (Nat.lt_of_le_of_lt (Nat.div_le_self _ _) HVB.out)
      have R1 := stp O1.rw B2
      have R2 := O2.rw
      have C2 := bt B1 B2
      clear hi hj hd1 hd2 h1 h2 hoa hob O1 O2 B1 B2
      generalize N / 2 ^ i = x0 at *
      generalize M / 2 ^ j = y0 at *
      go_loopg [0, 1] (x0 + y0) (fun g av bv wr => ∃ (x y : Nat) (Ax : Option Addr) (cx : Nat) (Ay : Option Addr) (cy : Nat), x + y = g ∧ av = .slice Ax (digs x).length cx ∧ bv = .slice Ay (digs y).length cy ∧ x % 2 = 1 ∧ y % 2 = 1 ∧ (digs x).length ≤ 15000 ∧ (digs y).length ≤ 15000 ∧
        RW wr wr.heap.size Ax cx (digs x) ∧ RW wr wr.heap.size Ay cy (digs y) ∧ Hid (Nat.gcd x y * 2 ^ t = Nat.gcd N M) ∧ Below w.heap.size w wr)
      case atStart => exact ⟨x0, y0, A1, c1, A2, c2, rfl, rfl, rfl, hx0, hy0, hl1, hl2, R1, R2, hG, C2⟩
      case round =>
        obtain ⟨x, y, Ax, cx, Ay, cy, rfl, rfl, rfl, hx, hy, lx, ly, Rx, Ry, hg, B⟩ := hrel
        have H1 := rorder_any Ax Ay cx cy _ _ (digs x) (digs y) wr rfl rfl Rx Ry (Nrm_digs _) (Nrm_digs _)
        rw [val_digs, val_digs] at H1
        have H2 := fun q => rsize_any Ax cx _ (digs x) (wr.drewN q) rfl (Rx.drewN q)
        have H3 := fun q => rsize_any Ay cy _ (digs y) (wr.drewN q) rfl (Ry.drewN q)
        rw [val_digs] at H2 H3
        have hbx := blen_one_iff (show 0 < x by omega)
        have hby := blen_one_iff (show 0 < y by omega)
        have H4 : ∀ w1 : World, Calls Try.prog 90 #[.slice (some ⟨w1.heap.size, 0, none⟩) 1 1, .int .i64 (t : Int)] (w1.alloc (.cells #[.int .u32 (1 : Nat)] 52)) (RetW (w1.alloc (.cells #[.int .u32 (1 : Nat)] 52)) (2 ^ t)) := fun w1 => by
          have h := rup_any (some ⟨w1.heap.size, 0, none⟩) 1 1 [1] (w1.alloc (.cells #[.int .u32 (1 : Nat)] 52)) t (by omega) rfl ((RW.one w1 52 (show 1 < 4294967296 by omega)).more (by simp)) (by simp)
          rw [val_one, Nat.one_mul] at h; exact h
        by_cases hxy : x = y
        · subst hxy
          have hcm : cmpN x x = 0 := by unfold cmpN; rw [if_neg (by omega), if_pos rfl]
          rw [hcm] at H1
          have H5 := fun q => rup_any Ax cx _ (digs x) (wr.drewN q) t (by omega) rfl (Rx.drewN q) (by omega)
          have eg : x * 2 ^ t = Nat.gcd N M := by have h := hg.out; rw [Nat.gcd_self] at h; exact h
          rw [val_digs, eg] at H5
          clear hcm hbx hby eg H2 H3 H4 Rx Ry
          go_wp2_with fail
          refine H1.mono ?_; rintro e w3 ⟨rfl, q, rfl⟩
          go_wp2_with fail
          refine (H5 q).mono ?_; rintro e w4 ⟨A4, c4, rfl, O4, B4⟩
          go_wp2_with fail
          go_ret
          exact ⟨A4, c4, rfl, O4.base_le B.size, bt (bdN B q) B4⟩
        · have hcm : cmpN x y ≠ 0 := by unfold cmpN; split <;> (try split) <;> omega
          have tcm : (cmpN x y != 0) = true := by simpa using hcm
          by_cases hx1 : x = 1
          · have t1 : ((blen x : Int) == 1) = true := by rw [hbx.2 hx1]; rfl
            have eg : 2 ^ t = Nat.gcd N M := by have h := hg.out; rw [hx1, Nat.gcd_one_left, Nat.one_mul] at h; exact h
            rw [eg] at H4
            generalize cmpN x y = cm at *
            clear hcm hbx hby eg H3 Rx Ry hx1 hxy
            generalize blen x = bx at *
            go_wp2_with fail
            refine H1.mono ?_; rintro e w3 ⟨rfl, q, rfl⟩
            go_wp2_with fail
            refine (H2 q).mono ?_; rintro e w3 ⟨rfl, rfl⟩
            go_wp2_with fail
            have Ba : Below w.heap.size w ((wr.drewN q).alloc (.cells #[.int .u32 (1 : Nat)] 52)) := (bdN B q).alloc (bdN B q).size _
            refine (H4 (wr.drewN q)).mono ?_; rintro e w4 ⟨A4, c4, rfl, O4, B4⟩
            go_wp2_with fail
            go_ret
            exact ⟨A4, c4, rfl, O4.base_le Ba.size, bt Ba B4⟩
          · have t1 : ((blen x : Int) == 1) = false := beq_eq_false_iff_ne.2 (fun h => hx1 (hbx.1 (by omega)))
            by_cases hy1 : y = 1
            · have t2 : ((blen y : Int) == 1) = true := by rw [hby.2 hy1]; rfl
              have eg : 2 ^ t = Nat.gcd N M := by have h := hg.out; rw [hy1, Nat.gcd_one_right, Nat.one_mul] at h; exact h
              rw [eg] at H4
              generalize cmpN x y = cm at *
              clear hcm hbx hby eg Rx Ry hx1 hxy hy1
              generalize blen x = bx at *
              generalize blen y = by1 at *
              go_wp2_with fail
              refine H1.mono ?_; rintro e w3 ⟨rfl, q, rfl⟩
              go_wp2_with fail
              refine (H2 q).mono ?_; rintro e w3 ⟨rfl, rfl⟩
              go_wp2_with fail
              refine (H3 q).mono ?_; rintro e w3 ⟨rfl, rfl⟩
              go_wp2_with fail
              have Ba : Below w.heap.size w ((wr.drewN q).alloc (.cells #[.int .u32 (1 : Nat)] 52)) := (bdN B q).alloc (bdN B q).size _
              refine (H4 (wr.drewN q)).mono ?_; rintro e w4 ⟨A4, c4, rfl, O4, B4⟩
              go_wp2_with fail
              go_ret
              exact ⟨A4, c4, rfl, O4.base_le Ba.size, bt Ba B4⟩
            · have t2 : ((blen y : Int) == 1) = false := beq_eq_false_iff_ne.2 (fun h => hy1 (hby.1 (by omega)))
              have H1' := fun q => rorder_any Ax Ay cx cy _ _ (digs x) (digs y) (wr.drewN q) rfl rfl (Rx.drewN q) (Ry.drewN q) (Nrm_digs _) (Nrm_digs _)
              rw [val_digs, val_digs] at H1'
              by_cases hlt : x < y
              · have hcl : cmpN x y = -1 := by unfold cmpN; rw [if_pos hlt]
                rw [hcl] at H1 H1'
                have hll : (digs x).length ≤ (digs y).length := len_of_le (B32_digs _) (Nrm_digs _) (by rw [val_digs, val_digs]; omega)
                have H6 := fun w' h1 h2 => rless_any Ay Ax cy cx _ _ (digs y) (digs x) w' rfl rfl h1 h2 hll (by rw [val_digs, val_digs]; omega) (by omega)
                rw [val_digs, val_digs] at H6
                have hl6 : (digs (y - x)).length ≤ (digs y).length := len_of_le (B32_digs _) (Nrm_digs _) (by rw [val_digs, val_digs]; omega)
                have H7 := fun A6 c6 w' h1 => rodd_any A6 c6 _ (digs (y - x)) w' rfl h1 (by rw [val_digs]; omega) (by omega)
                rw [val_digs] at H7
                have HL := Lib.hid hlt
                clear hcm tcm hcl hbx hby H4 hx1 hxy hy1 hll hlt
                generalize blen x = bx at *
                generalize blen y = by1 at *
                go_wp2_with fail
                refine H1.mono ?_; rintro e w3 ⟨rfl, q, rfl⟩
                go_wp2_with fail
                refine (H2 q).mono ?_; rintro e w3 ⟨rfl, rfl⟩
                go_wp2_with fail
                refine (H3 q).mono ?_; rintro e w3 ⟨rfl, rfl⟩
                go_wp2_with fail
                refine (H1' q).mono ?_; rintro e w3 ⟨rfl, q2, rfl⟩
                go_wp2_with fail
                refine (H6 _ (Ry.drewN (q + q2)) (Rx.drewN (q + q2))).mono ?_; rintro e w6 ⟨A6, c6, rfl, O6, B6⟩
                go_wp2_with fail
                refine (H7 A6 c6 w6 O6.rw).mono ?_; rintro e w7 ⟨k, hk, A7, c7, rfl, O7, B7⟩
                go_wp2_with fail
                have hko := hk.2
                have h67 := bt B6 B7
                have hlz := odd_lt (k := k) (show 0 < x by omega) HL.out
                have hl7 : (digs ((y - x) / 2 ^ k)).length ≤ 15000 := Nat.le_trans (len_of_le (a := digs (y - x)) (B32_digs _) (Nrm_digs _) (by rw [val_digs, val_digs]; exact Nat.div_le_self _ _)) (by omega)
                have hg2 : Hid (Nat.gcd ((y - x) / 2 ^ k) x * 2 ^ t = Nat.gcd N M) := by show _ = _; rw [gcd_swap hx (by have := HL.out; omega) hk]; exact hg.out
                go_roundg ((y - x) / 2 ^ k + x)
                case measure => omega
                case rel => exact ⟨(y - x) / 2 ^ k, x, A7, c7, Ax, cx, rfl, rfl, rfl, hko, hx, hl7, lx, O7.rw, stp (Rx.drewN (q + q2)) h67, hg2, bt (bdN B (q + q2)) h67⟩
              · have hcl : ¬ cmpN x y < 0 := by unfold cmpN; rw [if_neg hlt]; split <;> omega
                have hll : (digs y).length ≤ (digs x).length := len_of_le (B32_digs _) (Nrm_digs _) (by rw [val_digs, val_digs]; omega)
                have H6 := fun w' h1 h2 => rless_any Ax Ay cx cy _ _ (digs x) (digs y) w' rfl rfl h1 h2 hll (by rw [val_digs, val_digs]; omega) (by omega)
                rw [val_digs, val_digs] at H6
                have hl6 : (digs (x - y)).length ≤ (digs x).length := len_of_le (B32_digs _) (Nrm_digs _) (by rw [val_digs, val_digs]; omega)
                have H7 := fun A6 c6 w' h1 => rodd_any A6 c6 _ (digs (x - y)) w' rfl h1 (by rw [val_digs]; omega) (by omega)
                rw [val_digs] at H7
                have HL : Hid (y < x) := by show _ < _; omega
                generalize cmpN x y = cm at *
                clear hcm hbx hby H4 hx1 hxy hy1 hll hlt
                generalize blen x = bx at *
                generalize blen y = by1 at *
                go_wp2_with fail
                refine H1.mono ?_; rintro e w3 ⟨rfl, q, rfl⟩
                go_wp2_with fail
                refine (H2 q).mono ?_; rintro e w3 ⟨rfl, rfl⟩
                go_wp2_with fail
                refine (H3 q).mono ?_; rintro e w3 ⟨rfl, rfl⟩
                go_wp2_with fail
                refine (H1' q).mono ?_; rintro e w3 ⟨rfl, q2, rfl⟩
                go_wp2_with fail
                refine (H6 _ (Rx.drewN (q + q2)) (Ry.drewN (q + q2))).mono ?_; rintro e w6 ⟨A6, c6, rfl, O6, B6⟩
                go_wp2_with fail
                refine (H7 A6 c6 w6 O6.rw).mono ?_; rintro e w7 ⟨k, hk, A7, c7, rfl, O7, B7⟩
                go_wp2_with fail
                have hko := hk.2
                have h67 := bt B6 B7
                have hlz := odd_lt (k := k) (show 0 < y by omega) HL.out
                have hl7 : (digs ((x - y) / 2 ^ k)).length ≤ 15000 := Nat.le_trans (len_of_le (a := digs (x - y)) (B32_digs _) (Nrm_digs _) (by rw [val_digs, val_digs]; exact Nat.div_le_self _ _)) (by omega)
                have hg2 : Hid (Nat.gcd ((x - y) / 2 ^ k) y * 2 ^ t = Nat.gcd N M) := by show _ = _; rw [gcd_sub hy (by have := HL.out; omega) hk]; exact hg.out
                go_roundg ((x - y) / 2 ^ k + y)
                case measure => omega
                case rel => exact ⟨(x - y) / 2 ^ k, y, A7, c7, Ay, cy, rfl, rfl, rfl, hko, hy, hl7, ly, O7.rw, stp (Ry.drewN (q + q2)) h67, hg2, bt (bdN B (q + q2)) h67⟩

end Go.Proofs.Ytkjfpaommbjgbaa
namespace Go.Proofs.Ytkjfpaommbjgbaa
open Go.RowKit
theorem cmpN_ge {X Y : Nat} (h : Y ≤ X) : 0 ≤ cmpN X Y := by
  unfold cmpN
  rw [if_neg (by omega)]
  split <;> omega
theorem digs_pos_iff {n : Nat} : (decide (0 < n)) = decide (0 < (digs n).length) := by
  rw [decide_eq_decide, Nat.pos_iff_ne_zero, Nat.pos_iff_ne_zero, ne_eq, ne_eq, digs_len0]

set_option maxHeartbeats 1000000 in
theorem rat_any (neg : Bool) (A D : Option Addr) (c d n m : Nat) (a b : List Nat) (w : World) (hn : n = a.length) (hm : m = b.length) (ha : RW w w.heap.size A c a) (hb : RW w w.heap.size D d b) (na : Nrm a) (nb : Nrm b) (h0 : val b ≠ 0)
    (hla : a.length ≤ 15000) (hlb : b.length ≤ 15000) :
    Calls Try.prog 52 #[.bool neg, .slice A n c, .slice D m d] w (RetR w (ratN neg (val a) (val b))) := by
  subst hn hm
  have B1 := bal w (.cells #[.bool false, .slice none 0 0, .slice none 0 0] 24)
  have s1 := SB.new w [.bool false, .slice none 0 0, .slice none 0 0] 24
  obtain ⟨g, hg⟩ : ∃ g, g = Nat.gcd (val a) (val b) := ⟨_, rfl⟩
  have hd := divisor_any A D c d _ _ a b _ rfl rfl (st ha B1) (st hb B1) na nb (by omega) (by omega)
  rw [← hg] at hd
  have hg0 : val (digs g) ≠ 0 := by rw [val_digs, hg]; exact Nat.gcd_ne_zero_right h0
  have hlg : (digs g).length ≤ 1000000 := by
    have := digs_mono (Nat.le_of_dvd (Nat.pos_of_ne_zero h0) (Nat.gcd_dvd_right (val a) (val b)))
    rw [digs_val hb.b32 nb, ← hg] at this
    omega
  have hq := ratN_facts neg (val a) (val b) h0
  rw [← hg] at hq
  clear hg
  obtain ⟨t, ht⟩ : ∃ t, t = val a / g := ⟨_, rfl⟩
  obtain ⟨u, hu⟩ : ∃ u, u = val b / g := ⟨_, rfl⟩
  rw [← ht, ← hu] at hq
  have HT := Lib.hid ht
  have HU := Lib.hid hu
  clear ht hu
  cases neg with
  | true =>
    have HQ := Lib.hid hq
    clear hq
    go_enter Try.func52, Try.ntmps52
    go_wp2_with fail
    refine hd.mono ?_; rintro e w3 ⟨A2, c2, rfl, O2, B2⟩
    have ov1 := over_any A A2 c c2 _ _ a (digs g) w3 rfl rfl (st (st ha B1) B2) O2.rw na (Nrm_digs _) hg0 (by omega)
    rw [val_digs, ← HT.out] at ov1
    go_wp2_with fail
    refine ov1.mono ?_; rintro e w4 ⟨A3, c3, A9, c9, rfl, O3, O9, B3⟩
    have ov2 := over_any D A2 d c2 _ _ b (digs g) w4 rfl rfl (st (st (st hb B1) B2) B3) (st O2.rw B3) nb (Nrm_digs _) hg0 (by omega)
    rw [val_digs, ← HU.out] at ov2
    go_wp2_with fail
    refine ov2.mono ?_; rintro e w5 ⟨A4, c4, A8, c8, rfl, O4, O8, B4⟩
    have s5 := ((s1.nx B2).nx B3).nx B4
    have m0 := s5.cell 0
    have m1 := s5.cell 1
    have m2 := s5.cell 2
    have f0 := s5.frozen 0
    have f1 := s5.frozen 1
    have f2 := s5.frozen 2
    have hz : w.heap.size + 1 ≤ (w.alloc (.cells #[.bool false, .slice none 0 0, .slice none 0 0] 24)).heap.size := by simp
    have hz4 := B3.size
    have hz3 := B2.size
    have s6 := s5.put3 (.bool (decide (0 < (digs t).length))) (.slice A3 (digs t).length c3) (.slice A4 (digs u).length c4)
    have B5 : Below w.heap.size w (wr3 w5 w.heap.size (.bool (decide (0 < (digs t).length))) (.slice A3 (digs t).length c3) (.slice A4 (digs u).length c4)) := put3_below (bt (bt (bt B1 B2) B3) B4) (Nat.le_refl _) _ _ _
    have O3' := (O3.below B4 (Nat.le_refl _)).put3 (b := w.heap.size) (by omega) (.bool (decide (0 < (digs t).length))) (.slice A3 (digs t).length c3) (.slice A4 (digs u).length c4)
    have O4' := O4.put3 (b := w.heap.size) (by omega) (.bool (decide (0 < (digs t).length))) (.slice A3 (digs t).length c3) (.slice A4 (digs u).length c4)
    have r0 := s6.cell 0
    have r1 := s6.cell 1
    have r2 := s6.cell 2
    unfold wr3 at s6 B5 O3' O4' r0 r1 r2
    clear ov1 ov2
    go_wp2_with fail
    refine bodyPost_ret (v := .agg #[.bool (decide (0 < (digs t).length)), .slice A3 (digs t).length c3, .slice A4 (digs u).length c4]) (by simp [results, r0, r1, r2, go_sem]) rfl ?_
    refine ⟨A3, c3, A4, c4, ?_, ?_, ?_, B5⟩
    · rw [HQ.out.1, HQ.out.2.1, HQ.out.2.2, digs_pos_iff (n := t)]; rfl
    · rw [HQ.out.2.1]; exact O3'.base_le (by omega)
    · rw [HQ.out.2.2]; exact O4'.base_le (by omega)

  | false =>
    have HQ := Lib.hid hq
    clear hq
    go_enter Try.func52, Try.ntmps52
    go_wp2_with fail
    refine hd.mono ?_; rintro e w3 ⟨A2, c2, rfl, O2, B2⟩
    have ov1 := over_any A A2 c c2 _ _ a (digs g) w3 rfl rfl (st (st ha B1) B2) O2.rw na (Nrm_digs _) hg0 (by omega)
    rw [val_digs, ← HT.out] at ov1
    go_wp2_with fail
    refine ov1.mono ?_; rintro e w4 ⟨A3, c3, A9, c9, rfl, O3, O9, B3⟩
    have ov2 := over_any D A2 d c2 _ _ b (digs g) w4 rfl rfl (st (st (st hb B1) B2) B3) (st O2.rw B3) nb (Nrm_digs _) hg0 (by omega)
    rw [val_digs, ← HU.out] at ov2
    go_wp2_with fail
    refine ov2.mono ?_; rintro e w5 ⟨A4, c4, A8, c8, rfl, O4, O8, B4⟩
    have s5 := ((s1.nx B2).nx B3).nx B4
    have m0 := s5.cell 0
    have m1 := s5.cell 1
    have m2 := s5.cell 2
    have f0 := s5.frozen 0
    have f1 := s5.frozen 1
    have f2 := s5.frozen 2
    have hz : w.heap.size + 1 ≤ (w.alloc (.cells #[.bool false, .slice none 0 0, .slice none 0 0] 24)).heap.size := by simp
    have hz4 := B3.size
    have hz3 := B2.size
    have s6 := s5.put3 (.bool false) (.slice A3 (digs t).length c3) (.slice A4 (digs u).length c4)
    have B5 : Below w.heap.size w (wr3 w5 w.heap.size (.bool false) (.slice A3 (digs t).length c3) (.slice A4 (digs u).length c4)) := put3_below (bt (bt (bt B1 B2) B3) B4) (Nat.le_refl _) _ _ _
    have O3' := (O3.below B4 (Nat.le_refl _)).put3 (b := w.heap.size) (by omega) (.bool false) (.slice A3 (digs t).length c3) (.slice A4 (digs u).length c4)
    have O4' := O4.put3 (b := w.heap.size) (by omega) (.bool false) (.slice A3 (digs t).length c3) (.slice A4 (digs u).length c4)
    have r0 := s6.cell 0
    have r1 := s6.cell 1
    have r2 := s6.cell 2
    unfold wr3 at s6 B5 O3' O4' r0 r1 r2
    clear ov1 ov2
    go_wp2_with fail
    refine bodyPost_ret (v := .agg #[.bool false, .slice A3 (digs t).length c3, .slice A4 (digs u).length c4]) (by simp [results, r0, r1, r2, go_sem]) rfl ?_
    refine ⟨A3, c3, A4, c4, ?_, ?_, ?_, B5⟩
    · rw [HQ.out.1, HQ.out.2.1, HQ.out.2.2]; rfl
    · rw [HQ.out.2.1]; exact O3'.base_le (by omega)
    · rw [HQ.out.2.2]; exact O4'.base_le (by omega)


set_option maxHeartbeats 2000000 in
theorem product_any (v u : Value) (p q : Rat) (w : World) (hv : RQ w w.heap.size v p) (hu : RQ w w.heap.size u q) (hl : qw p + qw q ≤ 14000) :
    Calls Try.prog 60 #[v, u] w (RetR w (p * q)) := by
  obtain ⟨A, c, D, d, rfl, ra, rb⟩ := hv
  obtain ⟨E, e0, H, h0, rfl, rc, rd⟩ := hu
  have lp1 := qw_t p
  have lp2 := qw_d p
  have lq1 := qw_t q
  have lq2 := qw_d q
  have k0 := S3.new w [.bool (qn p), .slice A (digs (qt p)).length c, .slice D (digs (qd p)).length d] [.bool (qn q), .slice E (digs (qt q)).length e0, .slice H (digs (qd q)).length h0] [.bool false, .slice none 0 0, .slice none 0 0] 24 24 24 3
  have hT1 := fun w' x y => times_any A E c e0 _ _ (digs (qt p)) (digs (qt q)) w' rfl rfl x y (by omega) (by omega)
  have hT2 := fun w' x y => times_any D H d h0 _ _ (digs (qd p)) (digs (qd q)) w' rfl rfl x y (by omega) (by omega)
  simp only [val_digs] at hT1 hT2
  have hdd : qd p * qd q ≠ 0 := Nat.mul_ne_zero (qd_pos p) (qd_pos q)
  have hl1 : (digs (qt p * qt q)).length ≤ 15000 := by have := digs_mul (qt p) (qt q); omega
  have hl2 : (digs (qd p * qd q)).length ≤ 15000 := by have := digs_mul (qd p) (qd q); omega
  have hR := fun A4 c4 A5 c5 w' x y => rat_any (qn p != qn q) A4 A5 c4 c5 _ _ (digs (qt p * qt q)) (digs (qd p * qd q)) w' rfl rfl x y (Nrm_digs _) (Nrm_digs _) (by rw [val_digs]; exact hdd) hl1 hl2
  simp only [val_digs, q_mul] at hR
  clear hl1 hl2 hdd lp1 lp2 lq1 lq2 hl
  go_enter Try.func60, Try.ntmps60
  go_wp2_with fail
  have k0d := k0.dr
  have k0s := And.intro (k0d.1.cell 0) (And.intro (k0d.1.cell 1) (And.intro (k0d.1.cell 2) (And.intro (k0d.2.1.cell 0) (And.intro (k0d.2.1.cell 1) (And.intro (k0d.2.1.cell 2) (And.intro (k0d.2.2.1.cell 0) (And.intro (k0d.2.2.1.frozen 0) (And.intro (k0d.2.2.1.cell 1) (And.intro (k0d.2.2.1.frozen 1) (And.intro (k0d.2.2.1.cell 2) (And.intro (k0d.2.2.1.frozen 2) (k0d))))))))))))
  go_region_held3 (fun w' => w'.cell? ⟨w.heap.size, 0, none⟩ = some (.bool (qn p)) ∧ w'.cell? ⟨w.heap.size, 1, none⟩ = some (.slice A (digs (qt p)).length c) ∧ w'.cell? ⟨w.heap.size, 2, none⟩ = some (.slice D (digs (qd p)).length d) ∧ w'.cell? ⟨w.heap.size + 1, 0, none⟩ = some (.bool (qn q)) ∧ w'.cell? ⟨w.heap.size + 1, 1, none⟩ = some (.slice E (digs (qt q)).length e0) ∧ w'.cell? ⟨w.heap.size + 1, 2, none⟩ = some (.slice H (digs (qd q)).length h0) ∧ w'.cell? ⟨w.heap.size + 2, 0, none⟩ = some (cv w' (w.heap.size + 2) 0) ∧ w'.frozen? ⟨w.heap.size + 2, 0, none⟩ = false ∧ w'.cell? ⟨w.heap.size + 2, 1, none⟩ = some (cv w' (w.heap.size + 2) 1) ∧ w'.frozen? ⟨w.heap.size + 2, 1, none⟩ = false ∧ w'.cell? ⟨w.heap.size + 2, 2, none⟩ = some (cv w' (w.heap.size + 2) 2) ∧ w'.frozen? ⟨w.heap.size + 2, 2, none⟩ = false ∧ S3 w w.heap.size [.bool (qn p), .slice A (digs (qt p)).length c, .slice D (digs (qd p)).length d] [.bool (qn q), .slice E (digs (qt q)).length e0, .slice H (digs (qd q)).length h0] 3 w')
    (first
      | with_reducible exact k0s
      | (have s1 := (by assumption : _ ∧ _ ∧ _ ∧ _ ∧ _ ∧ _ ∧ _ ∧ _ ∧ _ ∧ _ ∧ _ ∧ _ ∧ S3 w w.heap.size [.bool (qn p), .slice A (digs (qt p)).length c, .slice D (digs (qd p)).length d] [.bool (qn q), .slice E (digs (qt q)).length e0, .slice H (digs (qd q)).length h0] 3 _).2.2.2.2.2.2.2.2.2.2.2.2.nx BX; have q0_ := s1.1.cell 0; have q1_ := s1.1.cell 1; have q2_ := s1.1.cell 2; have q3_ := s1.2.1.cell 0; have q4_ := s1.2.1.cell 1; have q5_ := s1.2.1.cell 2; have q6_ := s1.2.2.1.cell 0; have q7_ := s1.2.2.1.frozen 0; have q8_ := s1.2.2.1.cell 1; have q9_ := s1.2.2.1.frozen 1; have q10_ := s1.2.2.1.cell 2; have q11_ := s1.2.2.1.frozen 2; with_reducible exact ⟨q0_, q1_, q2_, q3_, q4_, q5_, q6_, q7_, q8_, q9_, q10_, q11_, s1⟩)
      | (have s1 := (by assumption : _ ∧ _ ∧ _ ∧ _ ∧ _ ∧ _ ∧ _ ∧ _ ∧ _ ∧ _ ∧ _ ∧ _ ∧ S3 w w.heap.size [.bool (qn p), .slice A (digs (qt p)).length c, .slice D (digs (qd p)).length d] [.bool (qn q), .slice E (digs (qt q)).length e0, .slice H (digs (qd q)).length h0] 3 _).2.2.2.2.2.2.2.2.2.2.2.2.put (.bool (qn (p * q))) (.slice A6 (digs (qt (p * q))).length c6) (.slice A7 (digs (qd (p * q))).length c7); have q0_ := s1.1.cell 0; have q1_ := s1.1.cell 1; have q2_ := s1.1.cell 2; have q3_ := s1.2.1.cell 0; have q4_ := s1.2.1.cell 1; have q5_ := s1.2.1.cell 2; have q6_ := s1.2.2.1.cell 0; have q7_ := s1.2.2.1.frozen 0; have q8_ := s1.2.2.1.cell 1; have q9_ := s1.2.2.1.frozen 1; have q10_ := s1.2.2.1.cell 2; have q11_ := s1.2.2.1.frozen 2; with_reducible exact ⟨q0_, q1_, q2_, q3_, q4_, q5_, q6_, q7_, q8_, q9_, q10_, q11_, s1⟩))
    (first
      | (go_at_call_of 78 (Value.slice A (digs (qt p)).length c); have hh := (by assumption : _ ∧ _ ∧ _ ∧ _ ∧ _ ∧ _ ∧ _ ∧ _ ∧ _ ∧ _ ∧ _ ∧ _ ∧ S3 w w.heap.size [.bool (qn p), .slice A (digs (qt p)).length c, .slice D (digs (qd p)).length d] [.bool (qn q), .slice E (digs (qt q)).length e0, .slice H (digs (qd q)).length h0] 3 _).2.2.2.2.2.2.2.2.2.2.2.2; refine (hT1 _ (st ra hh.2.2.2) (st rc hh.2.2.2)).mono ?_; rintro e w4 ⟨A4, c4, rfl, O4, BX⟩)
      | (go_at_call_of 78 (Value.slice D (digs (qd p)).length d); have hh := (by assumption : _ ∧ _ ∧ _ ∧ _ ∧ _ ∧ _ ∧ _ ∧ _ ∧ _ ∧ _ ∧ _ ∧ _ ∧ S3 w w.heap.size [.bool (qn p), .slice A (digs (qt p)).length c, .slice D (digs (qd p)).length d] [.bool (qn q), .slice E (digs (qt q)).length e0, .slice H (digs (qd q)).length h0] 3 _).2.2.2.2.2.2.2.2.2.2.2.2; refine (hT2 _ (st rb hh.2.2.2) (st rd hh.2.2.2)).mono ?_; rintro e w5 ⟨A5, c5, rfl, O5, BX⟩)
      | (go_at_call 52; have hh := (by assumption : _ ∧ _ ∧ _ ∧ _ ∧ _ ∧ _ ∧ _ ∧ _ ∧ _ ∧ _ ∧ _ ∧ _ ∧ S3 w w.heap.size [.bool (qn p), .slice A (digs (qt p)).length c, .slice D (digs (qd p)).length d] [.bool (qn q), .slice E (digs (qt q)).length e0, .slice H (digs (qd q)).length h0] 3 _).2.2.2.2.2.2.2.2.2.2.2.2; refine (hR A4 c4 A5 c5 _ (st O4.rw BX) O5.rw).mono ?_; rintro e w6 ⟨A6, c6, A7, c7, rfl, O6, O7, BX⟩; have kk := hh.nx BX; have B7 := BX))
  have s6 := kk.2.2.1.put3 (.bool (qn (p * q))) (.slice A6 (digs (qt (p * q))).length c6) (.slice A7 (digs (qd (p * q))).length c7)
  have hb6 := hh.2.2.1.2
  have B6 := put3_below (b := w.heap.size + 2) kk.2.2.2 (by omega) (.bool (qn (p * q))) (.slice A6 (digs (qt (p * q))).length c6) (.slice A7 (digs (qd (p * q))).length c7)
  have Oa := O6.put3 (b := w.heap.size + 2) hb6 (.bool (qn (p * q))) (.slice A6 (digs (qt (p * q))).length c6) (.slice A7 (digs (qd (p * q))).length c7)
  have Ob := O7.put3 (b := w.heap.size + 2) hb6 (.bool (qn (p * q))) (.slice A6 (digs (qt (p * q))).length c6) (.slice A7 (digs (qd (p * q))).length c7)
  have r0 := s6.cell 0
  have r1 := s6.cell 1
  have r2 := s6.cell 2
  unfold wr3 at s6 B6 Oa Ob r0 r1 r2
  go_wp2_with fail
  refine bodyPost_ret (v := .agg #[.bool (qn (p * q)), .slice A6 (digs (qt (p * q))).length c6, .slice A7 (digs (qd (p * q))).length c7]) (by simp [results, r0, r1, r2, go_sem]) rfl ?_
  exact ⟨A6, c6, A7, c7, rfl, Oa.base_le (by omega), Ob.base_le (by omega), B6⟩

set_option maxHeartbeats 1000000 in
theorem minus_raw (s : Bool) (A D : Option Addr) (c d n m : Nat) (w : World) :
    Calls Try.prog 61 #[.agg #[.bool s, .slice A n c, .slice D m d]] w fun e w' => e = .returned (.agg #[.bool (!s && decide (0 < n)), .slice A n c, .slice D m d]) ∧ Below w.heap.size w w' := by
  have B1 := bal w (.cells #[.bool s, .slice A n c, .slice D m d] 24)
  have B2 := bal (w.alloc (.cells #[.bool s, .slice A n c, .slice D m d] 24)) (.cells #[.bool false, .slice none 0 0, .slice none 0 0] 24)
  have z1 : (w.alloc (.cells #[.bool s, .slice A n c, .slice D m d] 24)).heap.size = w.heap.size + 1 := by simp
  have s1 := (SB.new w [.bool s, .slice A n c, .slice D m d] 24).nx B2
  have s2 := SB.new (w.alloc (.cells #[.bool s, .slice A n c, .slice D m d] 24)) [.bool false, .slice none 0 0, .slice none 0 0] 24
  rw [z1] at s2
  have m0 := s1.cell 0
  have m1 := s1.cell 1
  have m2 := s1.cell 2
  have n0 := s2.cell 0
  have n1 := s2.cell 1
  have n2 := s2.cell 2
  have g0 := s2.frozen 0
  have g1 := s2.frozen 1
  have g2 := s2.frozen 2
  have s3 := s2.put3 (.bool (!s && decide (0 < n))) (.slice A n c) (.slice D m d)
  have B3 := put3_below (b := w.heap.size + 1) (bt B1 B2) (by omega) (.bool (!s && decide (0 < n))) (.slice A n c) (.slice D m d)
  have r0 := s3.cell 0
  have r1 := s3.cell 1
  have r2 := s3.cell 2
  unfold wr3 at s3 B3 r0 r1 r2
  cases s with
  | true =>
    simp only [Bool.not_true, Bool.false_and] at *
    go_enter Try.func61, Try.ntmps61
    go_wp2_with fail
    refine bodyPost_ret (v := .agg #[.bool false, .slice A n c, .slice D m d]) (by simp [results, go_sem]) rfl ?_
    exact ⟨rfl, bt B1 (bal _ _)⟩
  | false =>
    simp only [Bool.not_false, Bool.true_and] at *
    go_enter Try.func61, Try.ntmps61
    go_wp2_with fail
    refine bodyPost_ret (v := .agg #[.bool (decide (0 < n)), .slice A n c, .slice D m d]) (by simp [results, go_sem]) rfl ?_
    exact ⟨rfl, bt B1 (bal _ _)⟩
theorem minus_any (q : Rat) (A D : Option Addr) (c d : Nat) (w : World) :
    Calls Try.prog 61 #[.agg #[.bool (qn q), .slice A (digs (qt q)).length c, .slice D (digs (qd q)).length d]] w fun e w' => e = .returned (.agg #[.bool (qn (-q)), .slice A (digs (qt (-q))).length c, .slice D (digs (qd (-q))).length d]) ∧ Below w.heap.size w w' := by
  rw [q_neg_n, q_neg_t, q_neg_d, digs_pos_iff (n := qt q)]
  exact minus_raw (qn q) A D c d _ _ w

set_option maxHeartbeats 4000000 in
theorem sum_any (v u : Value) (p q : Rat) (w : World) (hv : RQ w w.heap.size v p) (hu : RQ w w.heap.size u q) (hl : qw p + qw q ≤ 14000) :
    Calls Try.prog 59 #[v, u] w (RetR w (p + q)) := by
  obtain ⟨A, c, D, d, rfl, ra, rb⟩ := hv
  obtain ⟨E, e0, H, h0, rfl, rc, rd⟩ := hu
  have lp1 := qw_t p
  have lp2 := qw_d p
  have lq1 := qw_t q
  have lq2 := qw_d q
  have k0 := S3.new w [.bool (qn p), .slice A (digs (qt p)).length c, .slice D (digs (qd p)).length d] [.bool (qn q), .slice E (digs (qt q)).length e0, .slice H (digs (qd q)).length h0] [.bool false, .slice none 0 0, .slice none 0 0] 24 24 24 3
  have hT1 := fun w' x y => times_any A H c h0 _ _ (digs (qt p)) (digs (qd q)) w' rfl rfl x y (by omega) (by omega)
  have hT2 := fun w' x y => times_any E D e0 d _ _ (digs (qt q)) (digs (qd p)) w' rfl rfl x y (by omega) (by omega)
  have hT3 := fun w' x y => times_any D H d h0 _ _ (digs (qd p)) (digs (qd q)) w' rfl rfl x y (by omega) (by omega)
  simp only [val_digs] at hT1 hT2 hT3
  have hl1 := q_xy p q
  have hl2 := q_xy q p
  have hl3 := q_bb p q
  have hB0 : qd p * qd q ≠ 0 := Nat.mul_ne_zero (qd_pos p) (qd_pos q)
  have hE1 : qn p = qn q → ratN (qn p) (qt p * qd q + qt q * qd p) (qd p * qd q) = p + q := q_sum_same
  have hE2 : qn p ≠ qn q → qt q * qd p ≤ qt p * qd q → ratN (qn p) (qt p * qd q - qt q * qd p) (qd p * qd q) = p + q := q_sum_left
  have hE3 : qn p ≠ qn q → qt p * qd q ≤ qt q * qd p → ratN (qn q) (qt q * qd p - qt p * qd q) (qd p * qd q) = p + q := q_sum_right
  generalize qt p * qd q = X at *
  generalize qt q * qd p = Y at *
  generalize qd p * qd q = B at *
  have hl4 : (digs (X + Y)).length ≤ 15000 := Nat.le_trans (digs_add hl1 (by omega)) (by omega)
  have hl5 : (digs (X - Y)).length ≤ 15000 := Nat.le_trans (digs_mono (Nat.sub_le X Y)) (by omega)
  have hl6 : (digs (Y - X)).length ≤ 15000 := Nat.le_trans (digs_mono (Nat.sub_le Y X)) (by omega)
  by_cases hs : qn p = qn q
  · have hsb : (qn p == qn q) = true := by rw [hs]; simp
    have hR := fun A4 c4 A5 c5 w' x y => rat_any (qn p) A4 c4 A5 c5 _ _ (digs (X + Y)) (digs B) w' rfl rfl x y (Nrm_digs _) (Nrm_digs _) (by rw [val_digs]; exact hB0) hl4 (by omega)
    simp only [val_digs, hE1 hs] at hR
    clear hE1 hE2 hE3 hs
    go_enter Try.func59, Try.ntmps59
    go_wp2_with fail
    have k0d := k0.dr
    have k0s := And.intro (k0d.1.cell 1) (And.intro (k0d.1.cell 2) (And.intro (k0d.2.1.cell 1) (And.intro (k0d.2.1.cell 2) (k0d))))
    go_region_held3 (fun w' => w'.cell? ⟨w.heap.size, 1, none⟩ = some (.slice A (digs (qt p)).length c) ∧ w'.cell? ⟨w.heap.size, 2, none⟩ = some (.slice D (digs (qd p)).length d) ∧ w'.cell? ⟨w.heap.size + 1, 1, none⟩ = some (.slice E (digs (qt q)).length e0) ∧ w'.cell? ⟨w.heap.size + 1, 2, none⟩ = some (.slice H (digs (qd q)).length h0) ∧ S3 w w.heap.size [.bool (qn p), .slice A (digs (qt p)).length c, .slice D (digs (qd p)).length d] [.bool (qn q), .slice E (digs (qt q)).length e0, .slice H (digs (qd q)).length h0] 3 w')
      (first
        | with_reducible exact k0s
        | (have s1 := (by assumption : _ ∧ _ ∧ _ ∧ _ ∧ S3 w w.heap.size [.bool (qn p), .slice A (digs (qt p)).length c, .slice D (digs (qd p)).length d] [.bool (qn q), .slice E (digs (qt q)).length e0, .slice H (digs (qd q)).length h0] 3 _).2.2.2.2.nx BX; have q0_ := s1.1.cell 1; have q1_ := s1.1.cell 2; have q2_ := s1.2.1.cell 1; have q3_ := s1.2.1.cell 2; with_reducible exact ⟨q0_, q1_, q2_, q3_, s1⟩))
      (first
        | (go_at_call_of 78 (Value.slice A (digs (qt p)).length c); have hh := (by assumption : _ ∧ _ ∧ _ ∧ _ ∧ S3 w w.heap.size [.bool (qn p), .slice A (digs (qt p)).length c, .slice D (digs (qd p)).length d] [.bool (qn q), .slice E (digs (qt q)).length e0, .slice H (digs (qd q)).length h0] 3 _).2.2.2.2; refine (hT1 _ (st ra hh.2.2.2) (st rd hh.2.2.2)).mono ?_; rintro e w4 ⟨A4, c4, rfl, O4, BX⟩)
        | (go_at_call_of 78 (Value.slice E (digs (qt q)).length e0); have hh := (by assumption : _ ∧ _ ∧ _ ∧ _ ∧ S3 w w.heap.size [.bool (qn p), .slice A (digs (qt p)).length c, .slice D (digs (qd p)).length d] [.bool (qn q), .slice E (digs (qt q)).length e0, .slice H (digs (qd q)).length h0] 3 _).2.2.2.2; refine (hT2 _ (st rc hh.2.2.2) (st rb hh.2.2.2)).mono ?_; rintro e w5 ⟨A5, c5, rfl, O5, BX⟩; have k1 := hh.nx BX; have B5 := BX))
    have m0 := k1.1.cell 2
    have m1 := k1.2.1.cell 2
    go_wp2_with fail
    refine (hT3 _ (st rb k1.2.2.2) (st rd k1.2.2.2)).mono ?_; rintro e w6 ⟨A6, c6, rfl, O6, B6⟩
    have k2 := k1.nx B6
    have m2 := k2.1.cell 0
    have m3 := k2.2.1.cell 0
    have rx := st (st O4.rw B5) B6
    have ry := st O5.rw B6
    have hP := plus_any A4 A5 c4 c5 _ _ (digs X) (digs Y) w6.drew rfl rfl rx ry (by omega) (by omega)
    rw [val_digs, val_digs] at hP
    go_wp2_with fail
    have k2d := k2.dr
    have k2s := And.intro (k2d.1.cell 0) (And.intro (k2d.2.2.1.cell 0) (And.intro (k2d.2.2.1.frozen 0) (And.intro (k2d.2.2.1.cell 1) (And.intro (k2d.2.2.1.frozen 1) (And.intro (k2d.2.2.1.cell 2) (And.intro (k2d.2.2.1.frozen 2) (k2d)))))))
    go_region_held3 (fun w' => w'.cell? ⟨w.heap.size, 0, none⟩ = some (.bool (qn p)) ∧ w'.cell? ⟨w.heap.size + 2, 0, none⟩ = some (cv w' (w.heap.size + 2) 0) ∧ w'.frozen? ⟨w.heap.size + 2, 0, none⟩ = false ∧ w'.cell? ⟨w.heap.size + 2, 1, none⟩ = some (cv w' (w.heap.size + 2) 1) ∧ w'.frozen? ⟨w.heap.size + 2, 1, none⟩ = false ∧ w'.cell? ⟨w.heap.size + 2, 2, none⟩ = some (cv w' (w.heap.size + 2) 2) ∧ w'.frozen? ⟨w.heap.size + 2, 2, none⟩ = false ∧ S3 w w.heap.size [.bool (qn p), .slice A (digs (qt p)).length c, .slice D (digs (qd p)).length d] [.bool (qn q), .slice E (digs (qt q)).length e0, .slice H (digs (qd q)).length h0] 3 w')
      (first
        | with_reducible exact k2s
        | (have s1 := (by assumption : _ ∧ _ ∧ _ ∧ _ ∧ _ ∧ _ ∧ _ ∧ S3 w w.heap.size [.bool (qn p), .slice A (digs (qt p)).length c, .slice D (digs (qd p)).length d] [.bool (qn q), .slice E (digs (qt q)).length e0, .slice H (digs (qd q)).length h0] 3 _).2.2.2.2.2.2.2.nx BX; have q0_ := s1.1.cell 0; have q1_ := s1.2.2.1.cell 0; have q2_ := s1.2.2.1.frozen 0; have q3_ := s1.2.2.1.cell 1; have q4_ := s1.2.2.1.frozen 1; have q5_ := s1.2.2.1.cell 2; have q6_ := s1.2.2.1.frozen 2; with_reducible exact ⟨q0_, q1_, q2_, q3_, q4_, q5_, q6_, s1⟩)
        | (have s1 := (by assumption : _ ∧ _ ∧ _ ∧ _ ∧ _ ∧ _ ∧ _ ∧ S3 w w.heap.size [.bool (qn p), .slice A (digs (qt p)).length c, .slice D (digs (qd p)).length d] [.bool (qn q), .slice E (digs (qt q)).length e0, .slice H (digs (qd q)).length h0] 3 _).2.2.2.2.2.2.2.put (.bool (qn (p + q))) (.slice A8 (digs (qt (p + q))).length c8) (.slice A9 (digs (qd (p + q))).length c9); have q0_ := s1.1.cell 0; have q1_ := s1.2.2.1.cell 0; have q2_ := s1.2.2.1.frozen 0; have q3_ := s1.2.2.1.cell 1; have q4_ := s1.2.2.1.frozen 1; have q5_ := s1.2.2.1.cell 2; have q6_ := s1.2.2.1.frozen 2; with_reducible exact ⟨q0_, q1_, q2_, q3_, q4_, q5_, q6_, s1⟩))
      (first
        | (go_at_call 79; have hh := (by assumption : _ ∧ _ ∧ _ ∧ _ ∧ _ ∧ _ ∧ _ ∧ S3 w w.heap.size [.bool (qn p), .slice A (digs (qt p)).length c, .slice D (digs (qd p)).length d] [.bool (qn q), .slice E (digs (qt q)).length e0, .slice H (digs (qd q)).length h0] 3 _).2.2.2.2.2.2.2; refine hP.mono ?_; rintro e w7 ⟨A7, c7, rfl, O7, BX⟩; have B7 := BX)
        | (go_at_call 52; have hh := (by assumption : _ ∧ _ ∧ _ ∧ _ ∧ _ ∧ _ ∧ _ ∧ S3 w w.heap.size [.bool (qn p), .slice A (digs (qt p)).length c, .slice D (digs (qd p)).length d] [.bool (qn q), .slice E (digs (qt q)).length e0, .slice H (digs (qd q)).length h0] 3 _).2.2.2.2.2.2.2; refine (hR A7 A6 c7 c6 _ O7.rw (st (show RW w6.drew w6.drew.heap.size A6 c6 (digs B) from O6.rw) B7)).mono ?_; rintro e w8 ⟨A8, c8, A9, c9, rfl, O8, O9, BX⟩; have kk := hh.nx BX; have B8 := BX))
    have s6 := kk.2.2.1.put3 (.bool (qn (p + q))) (.slice A8 (digs (qt (p + q))).length c8) (.slice A9 (digs (qd (p + q))).length c9)
    have hb6 := hh.2.2.1.2
    have B6 := put3_below (b := w.heap.size + 2) kk.2.2.2 (by omega) (.bool (qn (p + q))) (.slice A8 (digs (qt (p + q))).length c8) (.slice A9 (digs (qd (p + q))).length c9)
    have Oa := O8.put3 (b := w.heap.size + 2) hb6 (.bool (qn (p + q))) (.slice A8 (digs (qt (p + q))).length c8) (.slice A9 (digs (qd (p + q))).length c9)
    have Ob := O9.put3 (b := w.heap.size + 2) hb6 (.bool (qn (p + q))) (.slice A8 (digs (qt (p + q))).length c8) (.slice A9 (digs (qd (p + q))).length c9)
    have r0 := s6.cell 0
    have r1 := s6.cell 1
    have r2 := s6.cell 2
    unfold wr3 at s6 B6 Oa Ob r0 r1 r2
    go_wp2_with fail
    refine bodyPost_ret (v := .agg #[.bool (qn (p + q)), .slice A8 (digs (qt (p + q))).length c8, .slice A9 (digs (qd (p + q))).length c9]) (by simp [results, r0, r1, r2, go_sem]) rfl ?_
    exact ⟨A8, c8, A9, c9, rfl, Oa.base_le (by omega), Ob.base_le (by omega), B6⟩
  · have hsb : (qn p == qn q) = false := beq_eq_false_iff_ne.2 hs
    rcases Nat.lt_or_ge X Y with hlt | hge
    · have hz : cmpN X Y = -1 := cmpN_lt hlt
      have hle : Hid (X ≤ Y) := Nat.le_of_lt hlt
      have hR := fun A4 c4 A5 c5 w' x y => rat_any (qn q) A4 c4 A5 c5 _ _ (digs (Y - X)) (digs B) w' rfl rfl x y (Nrm_digs _) (Nrm_digs _) (by rw [val_digs]; exact hB0) hl6 (by omega)
      simp only [val_digs, hE3 hs hle.out] at hR
      clear hE1 hE2 hE3 hs hlt
      go_enter Try.func59, Try.ntmps59
      go_wp2_with fail
      have k0d := k0.dr
      have k0s := And.intro (k0d.1.cell 1) (And.intro (k0d.1.cell 2) (And.intro (k0d.2.1.cell 1) (And.intro (k0d.2.1.cell 2) (k0d))))
      go_region_held3 (fun w' => w'.cell? ⟨w.heap.size, 1, none⟩ = some (.slice A (digs (qt p)).length c) ∧ w'.cell? ⟨w.heap.size, 2, none⟩ = some (.slice D (digs (qd p)).length d) ∧ w'.cell? ⟨w.heap.size + 1, 1, none⟩ = some (.slice E (digs (qt q)).length e0) ∧ w'.cell? ⟨w.heap.size + 1, 2, none⟩ = some (.slice H (digs (qd q)).length h0) ∧ S3 w w.heap.size [.bool (qn p), .slice A (digs (qt p)).length c, .slice D (digs (qd p)).length d] [.bool (qn q), .slice E (digs (qt q)).length e0, .slice H (digs (qd q)).length h0] 3 w')
        (first
          | with_reducible exact k0s
          | (have s1 := (by assumption : _ ∧ _ ∧ _ ∧ _ ∧ S3 w w.heap.size [.bool (qn p), .slice A (digs (qt p)).length c, .slice D (digs (qd p)).length d] [.bool (qn q), .slice E (digs (qt q)).length e0, .slice H (digs (qd q)).length h0] 3 _).2.2.2.2.nx BX; have q0_ := s1.1.cell 1; have q1_ := s1.1.cell 2; have q2_ := s1.2.1.cell 1; have q3_ := s1.2.1.cell 2; with_reducible exact ⟨q0_, q1_, q2_, q3_, s1⟩))
        (first
          | (go_at_call_of 78 (Value.slice A (digs (qt p)).length c); have hh := (by assumption : _ ∧ _ ∧ _ ∧ _ ∧ S3 w w.heap.size [.bool (qn p), .slice A (digs (qt p)).length c, .slice D (digs (qd p)).length d] [.bool (qn q), .slice E (digs (qt q)).length e0, .slice H (digs (qd q)).length h0] 3 _).2.2.2.2; refine (hT1 _ (st ra hh.2.2.2) (st rd hh.2.2.2)).mono ?_; rintro e w4 ⟨A4, c4, rfl, O4, BX⟩)
          | (go_at_call_of 78 (Value.slice E (digs (qt q)).length e0); have hh := (by assumption : _ ∧ _ ∧ _ ∧ _ ∧ S3 w w.heap.size [.bool (qn p), .slice A (digs (qt p)).length c, .slice D (digs (qd p)).length d] [.bool (qn q), .slice E (digs (qt q)).length e0, .slice H (digs (qd q)).length h0] 3 _).2.2.2.2; refine (hT2 _ (st rc hh.2.2.2) (st rb hh.2.2.2)).mono ?_; rintro e w5 ⟨A5, c5, rfl, O5, BX⟩; have k1 := hh.nx BX; have B5 := BX))
      have m0 := k1.1.cell 2
      have m1 := k1.2.1.cell 2
      go_wp2_with fail
      refine (hT3 _ (st rb k1.2.2.2) (st rd k1.2.2.2)).mono ?_; rintro e w6 ⟨A6, c6, rfl, O6, B6⟩
      have k2 := k1.nx B6
      have m2 := k2.1.cell 0
      have m3 := k2.2.1.cell 0
      have rx := st (st O4.rw B5) B6
      have ry := st O5.rw B6
      have hO := order_any A4 A5 c4 c5 _ _ (digs X) (digs Y) w6 rfl rfl rx ry (Nrm_digs _) (Nrm_digs _)
      rw [val_digs, val_digs, hz] at hO
      clear hz
      go_wp2_with fail
      refine hO.mono ?_; rintro e wo ⟨rfl, ko, hwo⟩
      have Bo : Below w6.heap.size w6 wo := by rw [hwo]; exact bdN (Below.refl _ _) ko
      clear hwo
      have k3 := k2.nx Bo
      have sx := st rx Bo
      have sy := st ry Bo
      have R6 := st O6.rw Bo
      have hP := less_any A5 A4 c5 c4 _ _ (digs Y) (digs X) wo.drew rfl rfl sy sx (digs_mono hle.out) (by rw [val_digs, val_digs]; exact hle.out)
      rw [val_digs, val_digs] at hP
      go_wp2_with fail
      have k3d := k3.dr
      have k3s := And.intro (k3d.2.1.cell 0) (And.intro (k3d.2.2.1.cell 0) (And.intro (k3d.2.2.1.frozen 0) (And.intro (k3d.2.2.1.cell 1) (And.intro (k3d.2.2.1.frozen 1) (And.intro (k3d.2.2.1.cell 2) (And.intro (k3d.2.2.1.frozen 2) (k3d)))))))
      go_region_held3 (fun w' => w'.cell? ⟨w.heap.size + 1, 0, none⟩ = some (.bool (qn q)) ∧ w'.cell? ⟨w.heap.size + 2, 0, none⟩ = some (cv w' (w.heap.size + 2) 0) ∧ w'.frozen? ⟨w.heap.size + 2, 0, none⟩ = false ∧ w'.cell? ⟨w.heap.size + 2, 1, none⟩ = some (cv w' (w.heap.size + 2) 1) ∧ w'.frozen? ⟨w.heap.size + 2, 1, none⟩ = false ∧ w'.cell? ⟨w.heap.size + 2, 2, none⟩ = some (cv w' (w.heap.size + 2) 2) ∧ w'.frozen? ⟨w.heap.size + 2, 2, none⟩ = false ∧ S3 w w.heap.size [.bool (qn p), .slice A (digs (qt p)).length c, .slice D (digs (qd p)).length d] [.bool (qn q), .slice E (digs (qt q)).length e0, .slice H (digs (qd q)).length h0] 3 w')
        (first
          | with_reducible exact k3s
          | (have s1 := (by assumption : _ ∧ _ ∧ _ ∧ _ ∧ _ ∧ _ ∧ _ ∧ S3 w w.heap.size [.bool (qn p), .slice A (digs (qt p)).length c, .slice D (digs (qd p)).length d] [.bool (qn q), .slice E (digs (qt q)).length e0, .slice H (digs (qd q)).length h0] 3 _).2.2.2.2.2.2.2.nx BX; have q0_ := s1.2.1.cell 0; have q1_ := s1.2.2.1.cell 0; have q2_ := s1.2.2.1.frozen 0; have q3_ := s1.2.2.1.cell 1; have q4_ := s1.2.2.1.frozen 1; have q5_ := s1.2.2.1.cell 2; have q6_ := s1.2.2.1.frozen 2; with_reducible exact ⟨q0_, q1_, q2_, q3_, q4_, q5_, q6_, s1⟩)
          | (have s1 := (by assumption : _ ∧ _ ∧ _ ∧ _ ∧ _ ∧ _ ∧ _ ∧ S3 w w.heap.size [.bool (qn p), .slice A (digs (qt p)).length c, .slice D (digs (qd p)).length d] [.bool (qn q), .slice E (digs (qt q)).length e0, .slice H (digs (qd q)).length h0] 3 _).2.2.2.2.2.2.2.put (.bool (qn (p + q))) (.slice A8 (digs (qt (p + q))).length c8) (.slice A9 (digs (qd (p + q))).length c9); have q0_ := s1.2.1.cell 0; have q1_ := s1.2.2.1.cell 0; have q2_ := s1.2.2.1.frozen 0; have q3_ := s1.2.2.1.cell 1; have q4_ := s1.2.2.1.frozen 1; have q5_ := s1.2.2.1.cell 2; have q6_ := s1.2.2.1.frozen 2; with_reducible exact ⟨q0_, q1_, q2_, q3_, q4_, q5_, q6_, s1⟩))
        (first
          | (go_at_call 81; have hh := (by assumption : _ ∧ _ ∧ _ ∧ _ ∧ _ ∧ _ ∧ _ ∧ S3 w w.heap.size [.bool (qn p), .slice A (digs (qt p)).length c, .slice D (digs (qd p)).length d] [.bool (qn q), .slice E (digs (qt q)).length e0, .slice H (digs (qd q)).length h0] 3 _).2.2.2.2.2.2.2; refine hP.mono ?_; rintro e w7 ⟨A7, c7, rfl, O7, BX⟩; have B7 := BX)
          | (go_at_call 52; have hh := (by assumption : _ ∧ _ ∧ _ ∧ _ ∧ _ ∧ _ ∧ _ ∧ S3 w w.heap.size [.bool (qn p), .slice A (digs (qt p)).length c, .slice D (digs (qd p)).length d] [.bool (qn q), .slice E (digs (qt q)).length e0, .slice H (digs (qd q)).length h0] 3 _).2.2.2.2.2.2.2; refine (hR A7 A6 c7 c6 _ O7.rw (st (show RW wo.drew wo.drew.heap.size A6 c6 (digs B) from R6) B7)).mono ?_; rintro e w8 ⟨A8, c8, A9, c9, rfl, O8, O9, BX⟩; have kk := hh.nx BX; have B8 := BX))
      have s6 := kk.2.2.1.put3 (.bool (qn (p + q))) (.slice A8 (digs (qt (p + q))).length c8) (.slice A9 (digs (qd (p + q))).length c9)
      have hb6 := hh.2.2.1.2
      have B6 := put3_below (b := w.heap.size + 2) kk.2.2.2 (by omega) (.bool (qn (p + q))) (.slice A8 (digs (qt (p + q))).length c8) (.slice A9 (digs (qd (p + q))).length c9)
      have Oa := O8.put3 (b := w.heap.size + 2) hb6 (.bool (qn (p + q))) (.slice A8 (digs (qt (p + q))).length c8) (.slice A9 (digs (qd (p + q))).length c9)
      have Ob := O9.put3 (b := w.heap.size + 2) hb6 (.bool (qn (p + q))) (.slice A8 (digs (qt (p + q))).length c8) (.slice A9 (digs (qd (p + q))).length c9)
      have r0 := s6.cell 0
      have r1 := s6.cell 1
      have r2 := s6.cell 2
      unfold wr3 at s6 B6 Oa Ob r0 r1 r2
      go_wp2_with fail
      refine bodyPost_ret (v := .agg #[.bool (qn (p + q)), .slice A8 (digs (qt (p + q))).length c8, .slice A9 (digs (qd (p + q))).length c9]) (by simp [results, r0, r1, r2, go_sem]) rfl ?_
      exact ⟨A8, c8, A9, c9, rfl, Oa.base_le (by omega), Ob.base_le (by omega), B6⟩
    · obtain ⟨z, hz, hz0⟩ : ∃ z, cmpN X Y = z ∧ 0 ≤ z := ⟨_, rfl, cmpN_ge hge⟩
      have hle : Hid (Y ≤ X) := hge
      have hR := fun A4 c4 A5 c5 w' x y => rat_any (qn p) A4 c4 A5 c5 _ _ (digs (X - Y)) (digs B) w' rfl rfl x y (Nrm_digs _) (Nrm_digs _) (by rw [val_digs]; exact hB0) hl5 (by omega)
      simp only [val_digs, hE2 hs hle.out] at hR
      clear hE1 hE2 hE3 hs hge
      go_enter Try.func59, Try.ntmps59
      go_wp2_with fail
      have k0d := k0.dr
      have k0s := And.intro (k0d.1.cell 1) (And.intro (k0d.1.cell 2) (And.intro (k0d.2.1.cell 1) (And.intro (k0d.2.1.cell 2) (k0d))))
      go_region_held3 (fun w' => w'.cell? ⟨w.heap.size, 1, none⟩ = some (.slice A (digs (qt p)).length c) ∧ w'.cell? ⟨w.heap.size, 2, none⟩ = some (.slice D (digs (qd p)).length d) ∧ w'.cell? ⟨w.heap.size + 1, 1, none⟩ = some (.slice E (digs (qt q)).length e0) ∧ w'.cell? ⟨w.heap.size + 1, 2, none⟩ = some (.slice H (digs (qd q)).length h0) ∧ S3 w w.heap.size [.bool (qn p), .slice A (digs (qt p)).length c, .slice D (digs (qd p)).length d] [.bool (qn q), .slice E (digs (qt q)).length e0, .slice H (digs (qd q)).length h0] 3 w')
        (first
          | with_reducible exact k0s
          | (have s1 := (by assumption : _ ∧ _ ∧ _ ∧ _ ∧ S3 w w.heap.size [.bool (qn p), .slice A (digs (qt p)).length c, .slice D (digs (qd p)).length d] [.bool (qn q), .slice E (digs (qt q)).length e0, .slice H (digs (qd q)).length h0] 3 _).2.2.2.2.nx BX; have q0_ := s1.1.cell 1; have q1_ := s1.1.cell 2; have q2_ := s1.2.1.cell 1; have q3_ := s1.2.1.cell 2; with_reducible exact ⟨q0_, q1_, q2_, q3_, s1⟩))
        (first
          | (go_at_call_of 78 (Value.slice A (digs (qt p)).length c); have hh := (by assumption : _ ∧ _ ∧ _ ∧ _ ∧ S3 w w.heap.size [.bool (qn p), .slice A (digs (qt p)).length c, .slice D (digs (qd p)).length d] [.bool (qn q), .slice E (digs (qt q)).length e0, .slice H (digs (qd q)).length h0] 3 _).2.2.2.2; refine (hT1 _ (st ra hh.2.2.2) (st rd hh.2.2.2)).mono ?_; rintro e w4 ⟨A4, c4, rfl, O4, BX⟩)
          | (go_at_call_of 78 (Value.slice E (digs (qt q)).length e0); have hh := (by assumption : _ ∧ _ ∧ _ ∧ _ ∧ S3 w w.heap.size [.bool (qn p), .slice A (digs (qt p)).length c, .slice D (digs (qd p)).length d] [.bool (qn q), .slice E (digs (qt q)).length e0, .slice H (digs (qd q)).length h0] 3 _).2.2.2.2; refine (hT2 _ (st rc hh.2.2.2) (st rb hh.2.2.2)).mono ?_; rintro e w5 ⟨A5, c5, rfl, O5, BX⟩; have k1 := hh.nx BX; have B5 := BX))
      have m0 := k1.1.cell 2
      have m1 := k1.2.1.cell 2
      go_wp2_with fail
      refine (hT3 _ (st rb k1.2.2.2) (st rd k1.2.2.2)).mono ?_; rintro e w6 ⟨A6, c6, rfl, O6, B6⟩
      have k2 := k1.nx B6
      have m2 := k2.1.cell 0
      have m3 := k2.2.1.cell 0
      have rx := st (st O4.rw B5) B6
      have ry := st O5.rw B6
      have hO := order_any A4 A5 c4 c5 _ _ (digs X) (digs Y) w6 rfl rfl rx ry (Nrm_digs _) (Nrm_digs _)
      rw [val_digs, val_digs, hz] at hO
      clear hz
      go_wp2_with fail
      refine hO.mono ?_; rintro e wo ⟨rfl, ko, hwo⟩
      have Bo : Below w6.heap.size w6 wo := by rw [hwo]; exact bdN (Below.refl _ _) ko
      clear hwo
      have k3 := k2.nx Bo
      have sx := st rx Bo
      have sy := st ry Bo
      have R6 := st O6.rw Bo
      have hP := less_any A4 A5 c4 c5 _ _ (digs X) (digs Y) wo.drew rfl rfl sx sy (digs_mono hle.out) (by rw [val_digs, val_digs]; exact hle.out)
      rw [val_digs, val_digs] at hP
      go_wp2_with fail
      have k3d := k3.dr
      have k3s := And.intro (k3d.1.cell 0) (And.intro (k3d.2.2.1.cell 0) (And.intro (k3d.2.2.1.frozen 0) (And.intro (k3d.2.2.1.cell 1) (And.intro (k3d.2.2.1.frozen 1) (And.intro (k3d.2.2.1.cell 2) (And.intro (k3d.2.2.1.frozen 2) (k3d)))))))
      go_region_held3 (fun w' => w'.cell? ⟨w.heap.size, 0, none⟩ = some (.bool (qn p)) ∧ w'.cell? ⟨w.heap.size + 2, 0, none⟩ = some (cv w' (w.heap.size + 2) 0) ∧ w'.frozen? ⟨w.heap.size + 2, 0, none⟩ = false ∧ w'.cell? ⟨w.heap.size + 2, 1, none⟩ = some (cv w' (w.heap.size + 2) 1) ∧ w'.frozen? ⟨w.heap.size + 2, 1, none⟩ = false ∧ w'.cell? ⟨w.heap.size + 2, 2, none⟩ = some (cv w' (w.heap.size + 2) 2) ∧ w'.frozen? ⟨w.heap.size + 2, 2, none⟩ = false ∧ S3 w w.heap.size [.bool (qn p), .slice A (digs (qt p)).length c, .slice D (digs (qd p)).length d] [.bool (qn q), .slice E (digs (qt q)).length e0, .slice H (digs (qd q)).length h0] 3 w')
        (first
          | with_reducible exact k3s
          | (have s1 := (by assumption : _ ∧ _ ∧ _ ∧ _ ∧ _ ∧ _ ∧ _ ∧ S3 w w.heap.size [.bool (qn p), .slice A (digs (qt p)).length c, .slice D (digs (qd p)).length d] [.bool (qn q), .slice E (digs (qt q)).length e0, .slice H (digs (qd q)).length h0] 3 _).2.2.2.2.2.2.2.nx BX; have q0_ := s1.1.cell 0; have q1_ := s1.2.2.1.cell 0; have q2_ := s1.2.2.1.frozen 0; have q3_ := s1.2.2.1.cell 1; have q4_ := s1.2.2.1.frozen 1; have q5_ := s1.2.2.1.cell 2; have q6_ := s1.2.2.1.frozen 2; with_reducible exact ⟨q0_, q1_, q2_, q3_, q4_, q5_, q6_, s1⟩)
          | (have s1 := (by assumption : _ ∧ _ ∧ _ ∧ _ ∧ _ ∧ _ ∧ _ ∧ S3 w w.heap.size [.bool (qn p), .slice A (digs (qt p)).length c, .slice D (digs (qd p)).length d] [.bool (qn q), .slice E (digs (qt q)).length e0, .slice H (digs (qd q)).length h0] 3 _).2.2.2.2.2.2.2.put (.bool (qn (p + q))) (.slice A8 (digs (qt (p + q))).length c8) (.slice A9 (digs (qd (p + q))).length c9); have q0_ := s1.1.cell 0; have q1_ := s1.2.2.1.cell 0; have q2_ := s1.2.2.1.frozen 0; have q3_ := s1.2.2.1.cell 1; have q4_ := s1.2.2.1.frozen 1; have q5_ := s1.2.2.1.cell 2; have q6_ := s1.2.2.1.frozen 2; with_reducible exact ⟨q0_, q1_, q2_, q3_, q4_, q5_, q6_, s1⟩))
        (first
          | (go_at_call 81; have hh := (by assumption : _ ∧ _ ∧ _ ∧ _ ∧ _ ∧ _ ∧ _ ∧ S3 w w.heap.size [.bool (qn p), .slice A (digs (qt p)).length c, .slice D (digs (qd p)).length d] [.bool (qn q), .slice E (digs (qt q)).length e0, .slice H (digs (qd q)).length h0] 3 _).2.2.2.2.2.2.2; refine hP.mono ?_; rintro e w7 ⟨A7, c7, rfl, O7, BX⟩; have B7 := BX)
          | (go_at_call 52; have hh := (by assumption : _ ∧ _ ∧ _ ∧ _ ∧ _ ∧ _ ∧ _ ∧ S3 w w.heap.size [.bool (qn p), .slice A (digs (qt p)).length c, .slice D (digs (qd p)).length d] [.bool (qn q), .slice E (digs (qt q)).length e0, .slice H (digs (qd q)).length h0] 3 _).2.2.2.2.2.2.2; refine (hR A7 A6 c7 c6 _ O7.rw (st (show RW wo.drew wo.drew.heap.size A6 c6 (digs B) from R6) B7)).mono ?_; rintro e w8 ⟨A8, c8, A9, c9, rfl, O8, O9, BX⟩; have kk := hh.nx BX; have B8 := BX))
      have s6 := kk.2.2.1.put3 (.bool (qn (p + q))) (.slice A8 (digs (qt (p + q))).length c8) (.slice A9 (digs (qd (p + q))).length c9)
      have hb6 := hh.2.2.1.2
      have B6 := put3_below (b := w.heap.size + 2) kk.2.2.2 (by omega) (.bool (qn (p + q))) (.slice A8 (digs (qt (p + q))).length c8) (.slice A9 (digs (qd (p + q))).length c9)
      have Oa := O8.put3 (b := w.heap.size + 2) hb6 (.bool (qn (p + q))) (.slice A8 (digs (qt (p + q))).length c8) (.slice A9 (digs (qd (p + q))).length c9)
      have Ob := O9.put3 (b := w.heap.size + 2) hb6 (.bool (qn (p + q))) (.slice A8 (digs (qt (p + q))).length c8) (.slice A9 (digs (qd (p + q))).length c9)
      have r0 := s6.cell 0
      have r1 := s6.cell 1
      have r2 := s6.cell 2
      unfold wr3 at s6 B6 Oa Ob r0 r1 r2
      go_wp2_with fail
      refine bodyPost_ret (v := .agg #[.bool (qn (p + q)), .slice A8 (digs (qt (p + q))).length c8, .slice A9 (digs (qd (p + q))).length c9]) (by simp [results, r0, r1, r2, go_sem]) rfl ?_
      exact ⟨A8, c8, A9, c9, rfl, Oa.base_le (by omega), Ob.base_le (by omega), B6⟩
end Go.Proofs.Ytkjfpaommbjgbaa
namespace Go.Proofs.Ytkjfpaommbjgbaa
open Go.RowKit

set_option maxHeartbeats 1000000 in
theorem rrat_any (neg : Bool) (A D : Option Addr) (c d n m : Nat) (a b : List Nat) (w : World) (hn : n = a.length) (hm : m = b.length) (ha : RW w w.heap.size A c a) (hb : RW w w.heap.size D d b) (na : Nrm a) (nb : Nrm b) (h0 : val b ≠ 0)
    (hla : a.length ≤ 15000) (hlb : b.length ≤ 15000) :
    Calls Try.prog 58 #[.bool neg, .slice A n c, .slice D m d] w (RetR w (ratN neg (val a) (val b))) := by
  subst hn hm
  have B1 := bal w (.cells #[.bool false, .slice none 0 0, .slice none 0 0] 24)
  have s1 := SB.new w [.bool false, .slice none 0 0, .slice none 0 0] 24
  obtain ⟨g, hg⟩ : ∃ g, g = Nat.gcd (val a) (val b) := ⟨_, rfl⟩
  have hd := rdivisor_any A D c d _ _ a b _ rfl rfl (st ha B1) (st hb B1) na nb (by omega) (by omega)
  rw [← hg] at hd
  have hg0 : val (digs g) ≠ 0 := by rw [val_digs, hg]; exact Nat.gcd_ne_zero_right h0
  have hlg : (digs g).length ≤ 1000000 := by
    have := digs_mono (Nat.le_of_dvd (Nat.pos_of_ne_zero h0) (Nat.gcd_dvd_right (val a) (val b)))
    rw [digs_val hb.b32 nb, ← hg] at this
    omega
  have hq := ratN_facts neg (val a) (val b) h0
  rw [← hg] at hq
  clear hg
  obtain ⟨t, ht⟩ : ∃ t, t = val a / g := ⟨_, rfl⟩
  obtain ⟨u, hu⟩ : ∃ u, u = val b / g := ⟨_, rfl⟩
  rw [← ht, ← hu] at hq
  have HT := Lib.hid ht
  have HU := Lib.hid hu
  clear ht hu
  cases neg with
  | true =>
    have HQ := Lib.hid hq
    clear hq
    go_enter Try.func58, Try.ntmps58
    go_wp2_with fail
    refine hd.mono ?_; rintro e w3 ⟨A2, c2, rfl, O2, B2⟩
    have ov1 := rover_any A A2 c c2 _ _ a (digs g) w3 rfl rfl (st (st ha B1) B2) O2.rw (Nrm_digs _) hg0 (by omega) hlg
    rw [val_digs, ← HT.out] at ov1
    go_wp2_with fail
    refine ov1.mono ?_; rintro e w4 ⟨A3, c3, A9, c9, rfl, O3, O9, B3⟩
    have ov2 := rover_any D A2 d c2 _ _ b (digs g) w4 rfl rfl (st (st (st hb B1) B2) B3) (st O2.rw B3) (Nrm_digs _) hg0 (by omega) hlg
    rw [val_digs, ← HU.out] at ov2
    go_wp2_with fail
    refine ov2.mono ?_; rintro e w5 ⟨A4, c4, A8, c8, rfl, O4, O8, B4⟩
    have s5 := ((s1.nx B2).nx B3).nx B4
    have m0 := s5.cell 0
    have m1 := s5.cell 1
    have m2 := s5.cell 2
    have f0 := s5.frozen 0
    have f1 := s5.frozen 1
    have f2 := s5.frozen 2
    have hz : w.heap.size + 1 ≤ (w.alloc (.cells #[.bool false, .slice none 0 0, .slice none 0 0] 24)).heap.size := by simp
    have hz4 := B3.size
    have hz3 := B2.size
    have s6 := s5.put3 (.bool (decide (0 < (digs t).length))) (.slice A3 (digs t).length c3) (.slice A4 (digs u).length c4)
    have B5 : Below w.heap.size w (wr3 w5 w.heap.size (.bool (decide (0 < (digs t).length))) (.slice A3 (digs t).length c3) (.slice A4 (digs u).length c4)) := put3_below (bt (bt (bt B1 B2) B3) B4) (Nat.le_refl _) _ _ _
    have O3' := (O3.below B4 (Nat.le_refl _)).put3 (b := w.heap.size) (by omega) (.bool (decide (0 < (digs t).length))) (.slice A3 (digs t).length c3) (.slice A4 (digs u).length c4)
    have O4' := O4.put3 (b := w.heap.size) (by omega) (.bool (decide (0 < (digs t).length))) (.slice A3 (digs t).length c3) (.slice A4 (digs u).length c4)
    have r0 := s6.cell 0
    have r1 := s6.cell 1
    have r2 := s6.cell 2
    unfold wr3 at s6 B5 O3' O4' r0 r1 r2
    clear ov1 ov2
    go_wp2_with fail
    refine bodyPost_ret (v := .agg #[.bool (decide (0 < (digs t).length)), .slice A3 (digs t).length c3, .slice A4 (digs u).length c4]) (by simp [results, r0, r1, r2, go_sem]) rfl ?_
    refine ⟨A3, c3, A4, c4, ?_, ?_, ?_, B5⟩
    · rw [HQ.out.1, HQ.out.2.1, HQ.out.2.2, digs_pos_iff (n := t)]; rfl
    · rw [HQ.out.2.1]; exact O3'.base_le (by omega)
    · rw [HQ.out.2.2]; exact O4'.base_le (by omega)

  | false =>
    have HQ := Lib.hid hq
    clear hq
    go_enter Try.func58, Try.ntmps58
    go_wp2_with fail
    refine hd.mono ?_; rintro e w3 ⟨A2, c2, rfl, O2, B2⟩
    have ov1 := rover_any A A2 c c2 _ _ a (digs g) w3 rfl rfl (st (st ha B1) B2) O2.rw (Nrm_digs _) hg0 (by omega) hlg
    rw [val_digs, ← HT.out] at ov1
    go_wp2_with fail
    refine ov1.mono ?_; rintro e w4 ⟨A3, c3, A9, c9, rfl, O3, O9, B3⟩
    have ov2 := rover_any D A2 d c2 _ _ b (digs g) w4 rfl rfl (st (st (st hb B1) B2) B3) (st O2.rw B3) (Nrm_digs _) hg0 (by omega) hlg
    rw [val_digs, ← HU.out] at ov2
    go_wp2_with fail
    refine ov2.mono ?_; rintro e w5 ⟨A4, c4, A8, c8, rfl, O4, O8, B4⟩
    have s5 := ((s1.nx B2).nx B3).nx B4
    have m0 := s5.cell 0
    have m1 := s5.cell 1
    have m2 := s5.cell 2
    have f0 := s5.frozen 0
    have f1 := s5.frozen 1
    have f2 := s5.frozen 2
    have hz : w.heap.size + 1 ≤ (w.alloc (.cells #[.bool false, .slice none 0 0, .slice none 0 0] 24)).heap.size := by simp
    have hz4 := B3.size
    have hz3 := B2.size
    have s6 := s5.put3 (.bool false) (.slice A3 (digs t).length c3) (.slice A4 (digs u).length c4)
    have B5 : Below w.heap.size w (wr3 w5 w.heap.size (.bool false) (.slice A3 (digs t).length c3) (.slice A4 (digs u).length c4)) := put3_below (bt (bt (bt B1 B2) B3) B4) (Nat.le_refl _) _ _ _
    have O3' := (O3.below B4 (Nat.le_refl _)).put3 (b := w.heap.size) (by omega) (.bool false) (.slice A3 (digs t).length c3) (.slice A4 (digs u).length c4)
    have O4' := O4.put3 (b := w.heap.size) (by omega) (.bool false) (.slice A3 (digs t).length c3) (.slice A4 (digs u).length c4)
    have r0 := s6.cell 0
    have r1 := s6.cell 1
    have r2 := s6.cell 2
    unfold wr3 at s6 B5 O3' O4' r0 r1 r2
    clear ov1 ov2
    go_wp2_with fail
    refine bodyPost_ret (v := .agg #[.bool false, .slice A3 (digs t).length c3, .slice A4 (digs u).length c4]) (by simp [results, r0, r1, r2, go_sem]) rfl ?_
    refine ⟨A3, c3, A4, c4, ?_, ?_, ?_, B5⟩
    · rw [HQ.out.1, HQ.out.2.1, HQ.out.2.2]; rfl
    · rw [HQ.out.2.1]; exact O3'.base_le (by omega)
    · rw [HQ.out.2.2]; exact O4'.base_le (by omega)


set_option maxHeartbeats 1000000 in
theorem rminus_raw (s : Bool) (A D : Option Addr) (c d n m : Nat) (w : World) :
    Calls Try.prog 27 #[.agg #[.bool s, .slice A n c, .slice D m d]] w fun e w' => e = .returned (.agg #[.bool (!s && decide (0 < n)), .slice A n c, .slice D m d]) ∧ Below w.heap.size w w' := by
  have B1 := bal w (.cells #[.bool s, .slice A n c, .slice D m d] 24)
  have B2 := bal (w.alloc (.cells #[.bool s, .slice A n c, .slice D m d] 24)) (.cells #[.bool false, .slice none 0 0, .slice none 0 0] 24)
  have z1 : (w.alloc (.cells #[.bool s, .slice A n c, .slice D m d] 24)).heap.size = w.heap.size + 1 := by simp
  have s1 := (SB.new w [.bool s, .slice A n c, .slice D m d] 24).nx B2
  have s2 := SB.new (w.alloc (.cells #[.bool s, .slice A n c, .slice D m d] 24)) [.bool false, .slice none 0 0, .slice none 0 0] 24
  rw [z1] at s2
  have m0 := s1.cell 0
  have m1 := s1.cell 1
  have m2 := s1.cell 2
  have n0 := s2.cell 0
  have n1 := s2.cell 1
  have n2 := s2.cell 2
  have g0 := s2.frozen 0
  have g1 := s2.frozen 1
  have g2 := s2.frozen 2
  have s3 := s2.put3 (.bool (!s && decide (0 < n))) (.slice A n c) (.slice D m d)
  have B3 := put3_below (b := w.heap.size + 1) (bt B1 B2) (by omega) (.bool (!s && decide (0 < n))) (.slice A n c) (.slice D m d)
  have r0 := s3.cell 0
  have r1 := s3.cell 1
  have r2 := s3.cell 2
  unfold wr3 at s3 B3 r0 r1 r2
  cases s with
  | true =>
    simp only [Bool.not_true, Bool.false_and] at *
    go_enter Try.func27, Try.ntmps27
    go_wp2_with fail
    refine bodyPost_ret (v := .agg #[.bool false, .slice A n c, .slice D m d]) (by simp [results, go_sem]) rfl ?_
    exact ⟨rfl, bt B1 (bal _ _)⟩
  | false =>
    simp only [Bool.not_false, Bool.true_and] at *
    go_enter Try.func27, Try.ntmps27
    go_wp2_with fail
    refine bodyPost_ret (v := .agg #[.bool (decide (0 < n)), .slice A n c, .slice D m d]) (by simp [results, go_sem]) rfl ?_
    exact ⟨rfl, bt B1 (bal _ _)⟩
theorem rminus_any (q : Rat) (A D : Option Addr) (c d : Nat) (w : World) :
    Calls Try.prog 27 #[.agg #[.bool (qn q), .slice A (digs (qt q)).length c, .slice D (digs (qd q)).length d]] w fun e w' => e = .returned (.agg #[.bool (qn (-q)), .slice A (digs (qt (-q))).length c, .slice D (digs (qd (-q))).length d]) ∧ Below w.heap.size w w' := by
  rw [q_neg_n, q_neg_t, q_neg_d, digs_pos_iff (n := qt q)]
  exact rminus_raw (qn q) A D c d _ _ w

end Go.Proofs.Ytkjfpaommbjgbaa
