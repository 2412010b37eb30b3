/- Walks: New, Of, List, Index. -/
import Derived.Test.YtmgblmdilepkpaaEnD
namespace Go.Proofs.Ytmgblmdilepkpaa
open Go.RowKit

theorem SC.put {w : World} {b : Nat} {v0 v1 : Value} (h : SC w b v0 v1) (x y : Value) : SC ((w.setCell ⟨b, 0, none⟩ x).setCell ⟨b, 1, none⟩ y) b x y := (h.far' ⟨b, 0, none⟩ x).set1
theorem put_below {B b : Nat} {a w : World} (h : Below B a w) (hb : B ≤ b) (x y : Value) : Below B a ((w.setCell ⟨b, 0, none⟩ x).setCell ⟨b, 1, none⟩ y) :=
  (h.setCell (p := ⟨b, 0, none⟩) hb _).setCell (p := ⟨b, 1, none⟩) hb _
theorem OL.put {α : Type} {e : TypeId} {f : α → Value} {w : World} {base b : Nat} {A : Option Addr} {c : Nat} {l : List α} (h : OL e f w base A c l) (hb : b < base) (x y : Value) : OL e f ((w.setCell ⟨b, 0, none⟩ x).setCell ⟨b, 1, none⟩ y) base A c l := by
  have hn : ∀ g, A = some ⟨g, 0, none⟩ → g ≠ b := fun g hg => by subst hg; have := h.lt.1; omega
  exact (h.far (p := ⟨b, 0, none⟩) hn _).far (p := ⟨b, 1, none⟩) hn _

theorem SC.alloc {w : World} {b : Nat} {v0 v1 : Value} (h : SC w b v0 v1) (o : Obj) : SC (w.alloc o) b v0 v1 := h.below (bal w o) h.2.2.2.2
/-- one cell in a block -/
def SC1 (w : World) (b : Nat) (v0 : Value) : Prop := w.cell? ⟨b, 0, none⟩ = some v0 ∧ w.frozen? ⟨b, 0, none⟩ = false ∧ b < w.heap.size
theorem SC1.new (w : World) (v0 : Value) (t : TypeId) : SC1 (w.alloc (.cells #[v0] t)) w.heap.size v0 := by
  have h0 := heap_alloc_new w (.cells #[v0] t)
  refine ⟨?_, ?_, by simp⟩
  · rw [cell_of_row _ _ _ _ _ _ h0]; rfl
  · unfold World.frozen?; rw [h0]; rfl
theorem SC1.below {w w' : World} {b B : Nat} {v0 : Value} (h : SC1 w b v0) (hb : Below B w w') (hB : b < B) : SC1 w' b v0 := by
  obtain ⟨h1, h2, h5⟩ := h
  exact ⟨(hb.cell hB).trans h1, (hb.frozen hB).trans h2, Nat.lt_of_lt_of_le h5 hb.size⟩
theorem SC1.alloc {w : World} {b : Nat} {v0 : Value} (h : SC1 w b v0) (o : Obj) : SC1 (w.alloc o) b v0 := h.below (bal w o) h.2.2
/-- an answer: a set and an error's number -/
def RetSE (w : World) (r : List Str × List Bool × Int) (e : Ending) (w' : World) : Prop :=
  ∃ A c D d, e = .returned (.tuple #[.agg #[.slice A r.1.length c, .slice D r.2.1.length d], .int .i64 r.2.2]) ∧ OS w' w.heap.size A c r.1 ∧ OBo w' w.heap.size D d r.2.1 ∧ Below w.heap.size w w'
theorem retSE_nil {w w' : World} (k : Int) (hb : Below w.heap.size w w') : RetSE w ([], [], k) (.returned (.tuple #[.agg #[.slice none 0 0, .slice none 0 0], .int .i64 k])) w' :=
  ⟨none, 0, none, 0, rfl, OL.nil .., OL.nil .., hb⟩

theorem new1_any (k : Int) (y : Str) (w : World) : Calls Try.prog 29 #[.int .i64 k, .string y] w fun e w' => e = .returned (.bool true) ∧ Below w.heap.size w w' := by
  go_enter Try.func29, Try.ntmps29
  go_wp2
  go_ret
  exact ⟨rfl, Below.refl _ _⟩

def newA (u : List Str) : List Str × List Bool × Int := if twB (ks u) then ([], [], 8) else if 64 < u.length then ([], [], 4) else (u, (List.range u.length).map (fun _ => true), 0)
set_option maxHeartbeats 1000000 in
theorem new_any (A : Option Addr) (c n : Nat) (u : List Str) (w : World) (hn : n = u.length) (hu : RS w w.heap.size A c u) :
    Calls Try.prog 7 #[.slice A n c] w (RetSE w (newA u)) := by
  subst hn
  have hbu : u.length ≤ 140737488351232 := hu.big
  have B0 := bal w (.cells #[.slice none 0 0, .slice none 0 0] 25)
  have c0 := SC.new w (.slice none 0 0) (.slice none 0 0) 25
  have htw := twice_any A c _ u _ rfl (st hu B0)
  have k1 := c0.1
  have k2 := c0.2.1
  have k3 := c0.2.2.1
  have k4 := c0.2.2.2.1
  unfold newA
  cases ht : twB (ks u) with
  | true =>
    rw [ht] at htw
    clear ht
    go_enter Try.func7, Try.ntmps7
    go_wp2_with fail
    refine htw.mono ?_; rintro e w' ⟨rfl, rfl⟩
    go_wp2_with fail
    refine bodyPost_ret (v := .tuple #[.agg #[.slice none 0 0, .slice none 0 0], .int .i64 8]) (by simp [results, k1, k2, go_sem]) rfl ?_
    exact retSE_nil 8 B0
  | false =>
    rw [ht] at htw
    clear ht
    by_cases h64 : 64 < u.length
    · rw [if_neg (by simp), if_pos h64]
      go_enter Try.func7, Try.ntmps7
      go_wp2_with fail
      refine htw.mono ?_; rintro e w' ⟨rfl, rfl⟩
      go_wp2_with fail
      refine bodyPost_ret (v := .tuple #[.agg #[.slice none 0 0, .slice none 0 0], .int .i64 4]) (by simp [results, k1, k2, go_sem]) rfl ?_
      exact retSE_nil 4 B0
    · rw [if_neg (by simp), if_neg h64]
      have hmk := make1_New A c u _ (fun _ => true) (by omega) (st hu B0) (fun k y w' _ _ => new1_any k y w')
      have hsz : (w.alloc (.cells #[.slice none 0 0, .slice none 0 0] 25)).heap.size = w.heap.size + 1 := by simp
      clear k1 k2 k3 k4
      go_enter Try.func7, Try.ntmps7
      go_wp2_with fail
      refine htw.mono ?_; rintro e w' ⟨rfl, rfl⟩
      go_wp2_with fail
      refine hmk.mono ?_; rintro e w2 ⟨A2, c2, D2, d2, rfl, O2, P2, B2⟩
      rw [hsz] at O2 P2
      have c2' := c0.below B2 (by rw [hsz]; omega)
      have k1 := c2'.1
      have k2 := c2'.2.1
      have k3 := c2'.2.2.1
      have k4 := c2'.2.2.2.1
      have cp := c2'.put (.slice A2 u.length c2) (.slice D2 u.length d2)
      have r1 := cp.1
      have r2 := cp.2.1
      have bp := put_below (bt B0 B2) (Nat.le_refl _) (.slice A2 u.length c2) (.slice D2 u.length d2)
      go_wp2_with fail
      refine bodyPost_ret (v := .tuple #[.agg #[.slice A2 u.length c2, .slice D2 u.length d2], .int .i64 0]) (by simp [results, r1, r2, go_sem]) rfl ?_
      exact ⟨A2, c2, D2, d2, by simp, (O2.put (Nat.lt_succ_self _) _ _).base_le (Nat.le_succ _), (P2.put (Nat.lt_succ_self _) _ _).base_le (Nat.le_succ _), bp⟩

theorem of1_any (p1 : Addr) (A : Option Addr) (c n : Nat) (l : List Str) (k : Int) (y : Str) (w : World) (hn : n = l.length) (hp : w.cell? p1 = some (.slice A n c)) (h : RS w w.heap.size A c l) :
    Calls Try.prog 31 #[.int .i64 k, .string y, .pointer (some p1)] w fun e w' => e = .returned (.bool (decide (y.toList ∈ ks l))) ∧ Below w.heap.size w w' := by
  have hct := contains_any A c n l y w hn h
  go_enter Try.func31, Try.ntmps31
  clear hn
  go_wp2_with fail
  refine hct.mono ?_; rintro e w' ⟨rfl, rfl⟩
  go_wp2_with fail
  go_ret
  exact ⟨rfl, Below.refl _ _⟩

/-- the first k of l are all in u -/
def Al (u l : List K) (k : Nat) : Prop := ∀ x, x ∈ l.take k → x ∈ u
theorem Al_succ {u l : List K} {k : Nat} {y : K} (h : Al u l k) (hy : l[k]? = some y) (hm : y ∈ u) : Al u l (k + 1) := by
  intro x hx
  rw [take_succ_of hy, List.mem_append, List.mem_singleton] at hx
  rcases hx with hx | rfl
  · exact h x hx
  · exact hm
def allB (u l : List K) : Bool := decide (∀ x, x ∈ l → x ∈ u)
theorem Al_end {u l : List K} {k : Nat} (h : Al u l k) (hk : l.length ≤ k) : allB u l = true := by
  unfold allB
  rw [decide_eq_true_eq]
  unfold Al at h
  rwa [List.take_of_length_le hk] at h
theorem Al_not {u l : List K} {k : Nat} {y : K} (hy : l[k]? = some y) (hm : ¬ y ∈ u) : allB u l = false := by
  unfold allB
  rw [decide_eq_false_iff_not]
  exact fun h => hm (h y (List.mem_of_getElem? hy))
def ofI (u l : List K) : List Bool := (List.range u.length).map fun k => decide (u.getD k [] ∈ l)
def ofA (u : List Str) (i : List Bool) (l : List Str) : List Str × List Bool × Int := if sdB (ks u) i then (if allB (ks u) (ks l) then (u, ofI (ks u) (ks l), 0) else ([], [], 7)) else ([], [], 2)
set_option maxHeartbeats 2000000 in
theorem of_any (A D : Option Addr) (c d : Nat) (u : List Str) (i : List Bool) (E : Option Addr) (e0 : Nat) (l : List Str) (w : World) (hu : RS w w.heap.size A c u) (hi : RBo w w.heap.size D d i) (hl : RS w w.heap.size E e0 l) :
    Calls Try.prog 8 #[.agg #[.slice A u.length c, .slice D i.length d], .slice E l.length e0] w (RetSE w (ofA u i l)) := by
  have hbl : l.length ≤ 140737488351232 := hl.big
  have s0 := ((SC.new w (.slice A u.length c) (.slice D i.length d) 25).alloc (.cells #[.slice E l.length e0] 22)).alloc (.cells #[.slice none 0 0, .slice none 0 0] 25)
  have e1 := (SC1.new (w.alloc (.cells #[.slice A u.length c, .slice D i.length d] 25)) (.slice E l.length e0) 22).alloc (.cells #[.slice none 0 0, .slice none 0 0] 25)
  have c0 := SC.new ((w.alloc (.cells #[.slice A u.length c, .slice D i.length d] 25)).alloc (.cells #[.slice E l.length e0] 22)) (.slice none 0 0) (.slice none 0 0) 25
  have B3 := bt (bt (bal w (.cells #[.slice A u.length c, .slice D i.length d] 25)) (bal _ (.cells #[.slice E l.length e0] 22))) (bal _ (.cells #[.slice none 0 0, .slice none 0 0] 25))
  have z1 : (w.alloc (.cells #[.slice A u.length c, .slice D i.length d] 25)).heap.size = w.heap.size + 1 := by simp
  have z2 : ((w.alloc (.cells #[.slice A u.length c, .slice D i.length d] 25)).alloc (.cells #[.slice E l.length e0] 22)).heap.size = w.heap.size + 2 := by simp
  have z3 : (((w.alloc (.cells #[.slice A u.length c, .slice D i.length d] 25)).alloc (.cells #[.slice E l.length e0] 22)).alloc (.cells #[.slice none 0 0, .slice none 0 0] 25)).heap.size = w.heap.size + 3 := by simp
  rw [z1] at e1
  rw [z2] at c0
  have hsd := sound_any A D c d u i _ (st hu B3) (st hi B3)
  have l1 := s0.1
  have l2 := s0.2.1
  cases hs : sdB (ks u) i with
  | false =>
    rw [hs] at hsd
    have HR : Hid (ofA u i l = ([], [], 2)) := by show _ = _; unfold ofA; rw [hs]; rfl
    clear hs
    go_enter Try.func8, Try.ntmps8
    go_wp2_with fail
    refine hsd.mono ?_; rintro e w4 ⟨rfl, B4⟩
    have c4 := c0.below B4 (by rw [z3]; omega)
    have k1 := c4.1
    have k2 := c4.2.1
    have k3 := c4.2.2.1
    have k4 := c4.2.2.2.1
    have cp := c4.put (.slice none 0 0) (.slice none 0 0)
    have r1 := cp.1
    have r2 := cp.2.1
    have bp := put_below (b := w.heap.size + 2) (bt B3 B4) (by omega) (.slice none 0 0) (.slice none 0 0)
    go_wp2_with fail
    refine bodyPost_ret (v := .tuple #[.agg #[.slice none 0 0, .slice none 0 0], .int .i64 2]) (by simp [results, r1, r2, go_sem]) rfl ?_
    rw [HR.out]
    exact retSE_nil 2 bp
  | true =>
    rw [hs] at hsd
    have hlen := sdB_len hs
    rw [ks_length] at hlen
    have hu64 := hlen.1
    have HR : Hid (ofA u i l = if allB (ks u) (ks l) then (u, ofI (ks u) (ks l), 0) else ([], [], 7)) := by show _ = _; unfold ofA; rw [hs]; rfl
    clear hs hlen
    go_enter Try.func8, Try.ntmps8
    go_wp2_with fail
    refine hsd.mono ?_; rintro e w4 ⟨rfl, B4⟩
    have s4 := s0.below B4 (by rw [z3]; omega)
    have e4 := e1.below B4 (by rw [z3]; omega)
    have c4 := c0.below B4 (by rw [z3]; omega)
    have C4 := bt B3 B4
    have hu4 := st hu C4
    have hl4 := st hl C4
    have m1 := s4.1
    have m2 := e4.1
    have hct := fun y => contains_any A c _ u y w4 rfl hu4
    have Z3 := Lib.hid z3
    have HS4 := Lib.hid e4
    have HC4 := Lib.hid c4
    clear z1 z2 z3 s0 e1 c0 B3 l1 l2 hsd s4 e4 c4 hu hi
    go_wp2_with fail
    go_loopw [14] (fun n wr => ∃ k : Nat, k ≤ l.length ∧ n = .int .i64 (k : Int) ∧ Hid (Al (ks u) (ks l) k) ∧ w4 = wr) (fun i _ => l.length - (intOf i).toNat)
    case atStart => exact ⟨0, Nat.zero_le _, rfl, fun x hx => by simp at hx, rfl⟩
    case round =>
      obtain ⟨k, hk, rfl, hal, rfl⟩ := hrel
      by_cases h0 : k < l.length
      · obtain ⟨b1, o1, rfl, hlt1, hx⟩ := hl4.at_ (by omega)
        obtain ⟨y, hy⟩ : ∃ y, l[k]? = some y := ⟨_, List.getElem?_eq_getElem h0⟩
        have hxk := hx k y hy
        change _ = some (Value.string y) at hxk
        have HY := Lib.hid (ks_get hy)
        have hcy := hct y
        clear hx hy hct hl4
        by_cases hm : y.toList ∈ ks u
        · rw [decide_eq_true hm] at hcy
          have hst := Lib.hid (Al_succ hal.out HY.out hm)
          clear hm
          go_wp2_with fail
          refine hcy.mono ?_; rintro e w' ⟨rfl, rfl⟩
          go_wp2_with fail
          go_roundw
          case rel => exact ⟨k + 1, by omega, by go_num, hst, by first | exact rfl | trivial⟩
          case measure => simp [intOf]; omega
        · rw [decide_eq_false hm] at hcy
          have hno := Lib.hid (Al_not HY.out hm)
          have k1 := HC4.out.1
          have k2 := HC4.out.2.1
          have k3 := HC4.out.2.2.1
          have k4 := HC4.out.2.2.2.1
          have cp := HC4.out.put (.slice none 0 0) (.slice none 0 0)
          have r1 := cp.1
          have r2 := cp.2.1
          have bp := put_below (b := w.heap.size + 2) C4 (by omega) (.slice none 0 0) (.slice none 0 0)
          clear hm
          go_wp2_with fail
          refine hcy.mono ?_; rintro e w' ⟨rfl, rfl⟩
          go_wp2_with fail
          refine bodyPost_ret (v := .tuple #[.agg #[.slice none 0 0, .slice none 0 0], .int .i64 7]) (by simp [results, r1, r2, go_sem]) rfl ?_
          rw [HR.out, hno.out]
          exact retSE_nil 7 bp
      · have hyes := Lib.hid (Al_end hal.out (by rw [ks_length]; omega))
        have hz4 : w.heap.size + 3 ≤ w4.heap.size := by have := B4.size; rw [Z3.out] at this; exact this
        have hmk := make1_Of A c u w4 (some ⟨w.heap.size + 1, 0, none⟩) (fun k => decide ((ks u).getD k [] ∈ ks l)) (by omega) hu4 (fun k y w' hk hb => by
          have h := of1_any ⟨w.heap.size + 1, 0, none⟩ E e0 _ l k y w' rfl ((hb.cell (by show w.heap.size + 1 < w4.heap.size; omega)).trans HS4.out.1) (st hl4 hb)
          have hg : (ks u).getD k [] = y.toList := by rw [List.getD_eq_getElem?_getD, ks_get hk]; rfl
          rw [hg]; exact h)
        clear hct
        go_wp2_with fail
        refine hmk.mono ?_; rintro e w5 ⟨A5, c5, D5, d5, rfl, O5, P5, B5⟩
        have c5' := HC4.out.below B5 (by omega)
        have k1 := c5'.1
        have k2 := c5'.2.1
        have k3 := c5'.2.2.1
        have k4 := c5'.2.2.2.1
        have cp := c5'.put (.slice A5 u.length c5) (.slice D5 u.length d5)
        have r1 := cp.1
        have r2 := cp.2.1
        have bp := put_below (b := w.heap.size + 2) (bt C4 B5) (by omega) (.slice A5 u.length c5) (.slice D5 u.length d5)
        go_wp2_with fail
        refine bodyPost_ret (v := .tuple #[.agg #[.slice A5 u.length c5, .slice D5 u.length d5], .int .i64 0]) (by simp [results, r1, r2, go_sem]) rfl ?_
        rw [HR.out, hyes.out]
        simp only [if_true]
        exact ⟨A5, c5, D5, d5, by simp [ofI, ks_length], (O5.put (by omega) _ _).base_le (by omega), by have h := (P5.put (show w.heap.size + 2 < w4.heap.size by omega) (.slice A5 u.length c5) (.slice D5 u.length d5)).base_le (show w.heap.size ≤ w4.heap.size by omega); unfold ofI; rw [ks_length]; exact h, bp⟩
end Go.Proofs.Ytmgblmdilepkpaa
