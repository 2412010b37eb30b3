/- Merged texts: BiE, BiF. -/
import Derived.Test.YtbgggepdlkbpoaaGreatDoorGL
import Derived.Test.YtbgggepdlkbpoaaGreatDoorGH
namespace Go.Proofs.YtbgggepdlkbpoaaGreatDoor
open Go.RowKit

/-- an own slice's block -/
theorem OW.bet {w : World} {base c : Nat} {A : Option Addr} {l : List Nat} (h : OW w base A c l) : ∀ g, A = some ⟨g, 0, none⟩ → base ≤ g ∧ g < w.heap.size := fun g hA => by subst hA; exact h.lt
/-- six cells written in another block -/
theorem OW.putg {w : World} {base g b c : Nat} {l : List Nat} (h : OW w base (some ⟨g, 0, none⟩) c l) (hb : g ≠ b) (x y z x' y' z' : Value) : OW (wr6 w b x y z x' y' z') base (some ⟨g, 0, none⟩) c l := by
  have f : ∀ {w : World}, OW w base (some ⟨g, 0, none⟩) c l → ∀ i v, OW (w.setCell ⟨b, i, none⟩ v) base (some ⟨g, 0, none⟩) c l := fun O i v => O.far (fun g' hA => by cases hA; exact hb) _
  exact f (f (f (f (f (f h 0 x) 1 y) 2 z) 3 x') 4 y') 5 z'
theorem rwq_z' : rwq 0 = ⟨false, [], [1]⟩ := by rw [← digs_one1, ← digs_zero]; rfl
theorem rwq_zi : rwq ((0 : Int) : Rat) = ⟨false, [], [1]⟩ := rwq_z'
/-- a whole number, so taken -/
theorem rwq_int (s : Bool) (v : Nat) (h : v = 0 → s = false) : rwq ((sgn s v : Int) : Rat) = ⟨s, digs v, [1]⟩ := by
  have e1 : qn ((sgn s v : Int) : Rat) = s := by
    rw [qn_int]
    cases s with
    | true =>
      have hv : v ≠ 0 := fun e => by have := h e; cases this
      rw [sgn_true]; exact decide_eq_true (by omega)
    | false => rw [sgn_false]; exact decide_eq_false (by omega)
  have e2 : qt ((sgn s v : Int) : Rat) = v := by
    rw [qt_int]
    cases s with
    | true => rw [sgn_true]; omega
    | false => rw [sgn_false]; omega
  unfold rwq
  rw [e1, e2, qd_int, digs_one1]
theorem qw_int (s : Bool) (v : Nat) : qw ((sgn s v : Int) : Rat) = max (digs v).length 1 := by
  unfold qw
  have e2 : qt ((sgn s v : Int) : Rat) = v := by
    rw [qt_int]
    cases s with
    | true => rw [sgn_true]; omega
    | false => rw [sgn_false]; omega
  rw [e2, qd_int, digs_one1]
  rfl
theorem qw_zero : qw 0 = 1 := by
  unfold qw
  rw [show qt 0 = 0 from rfl, show qd 0 = 1 from rfl, digs_one1, digs_zero]; rfl
/-- an answer: a number of blocks from base on, and an error's number -/
def RetNB (base : Nat) (w : World) (x : Rw × Rw × Int) (e : Ending) (w' : World) : Prop := ∃ A1 c1 D1 d1 A2 c2 D2 d2, e = .returned (.tuple #[.agg #[.bool x.1.s, .slice A1 x.1.a.length c1, .slice D1 x.1.b.length d1, .bool x.2.1.s, .slice A2 x.2.1.a.length c2, .slice D2 x.2.1.b.length d2], .int .i64 x.2.2]) ∧
  OW w' base A1 c1 x.1.a ∧ OW w' base D1 d1 x.1.b ∧ OW w' base A2 c2 x.2.1.a ∧ OW w' base D2 d2 x.2.1.b ∧ Below base w w'
theorem RetNB.ne {w w1 w2 : World} {x : Rw × Rw × Int} {e : Ending} (h : RetNB w.heap.size w1 x e w2) (hb : Below w.heap.size w w1) : RetNE w x e w2 := by
  obtain ⟨A1, c1, D1, d1, A2, c2, D2, d2, he, o1, o2, o3, o4, B⟩ := h
  exact ⟨A1, c1, D1, d1, A2, c2, D2, d2, he, o1, o2, o3, o4, hb.trans B⟩
theorem retNB_nil {base : Nat} {w w' : World} (k : Int) (hb : Below base w w') : RetNB base w (rw0, rw0, k) (.returned (.tuple #[.agg #[.bool false, .slice none 0 0, .slice none 0 0, .bool false, .slice none 0 0, .slice none 0 0], .int .i64 k])) w' :=
  ⟨none, 0, none, 0, none, 0, none, 0, rfl, OW.nil _ _, OW.nil _ _, OW.nil _ _, OW.nil _ _, hb⟩
/-- what a row is: by its sign -/
theorem num_pos {l : List Nat} (h : val l < 2 ^ (32 * l.length - 1)) : tcI (32 * l.length) (val l) = sgn false (val l) := by
  unfold tcI
  rw [if_pos h, sgn_false]
theorem num_neg {l : List Nat} (hb : B32 l) (h : 2 ^ (32 * l.length - 1) ≤ val l) : tcI (32 * l.length) (val l) = sgn true ((Wp l.length - val l) % Wp l.length) ∧ (Wp l.length - val l) % Wp l.length ≠ 0 := by
  have h1 := val_lt hb
  have h2 : 0 < 2 ^ (32 * l.length - 1) := Nat.pow_pos (by omega)
  have h3 : (Wp l.length - val l) % Wp l.length = Wp l.length - val l := Nat.mod_eq_of_lt (by omega)
  rw [h3]
  unfold tcI
  rw [if_neg (by omega), sgn_true, ← Wp_eq]
  omega
theorem fit_int {s : Bool} {v : Nat} (h0 : v = 0 → s = false) (hl : (digs v).length ≤ 512) : fitQ ((sgn s v : Int) : Rat) 0 = (⟨s, digs v, [1]⟩, ⟨false, [], [1]⟩, 0) := by
  rw [fitQ_ok (by rw [qw_int]; omega) (by rw [qw_zero]; omega), rwq_int s v h0, rwq_z']
theorem fit_big {s : Bool} {v : Nat} (hl : 512 < (digs v).length) : fitQ ((sgn s v : Int) : Rat) 0 = (rw0, rw0, 4) :=
  fitQ_no (.inl (by rw [qw_int]; omega))


set_option maxRecDepth 100000 in
set_option maxHeartbeats 8000000 in
theorem bnum_false (g c m : Nat) (l : List Nat) (w : World) (base : Nat) (h : OW w base (some ⟨g, 0, none⟩) c l) (hl : l.length = m + 1) (hm : m < 1000000) (hbase : base ≤ w.heap.size)
    (hd : wd l m / 2147483648 = 0) (l' : List Nat) (hl' : l' = l) (hll : l'.length = m + 1) :
    Calls Tryz.prog 29 #[.slice (some ⟨g, 0, none⟩) (m + 1) c] w fun e w' => (512 < (digs (val l')).length → RetNB base w (rw0, rw0, 4) e w') ∧ ((digs (val l')).length ≤ 512 → RetNB base w (⟨false, digs (val l'), [1]⟩, ⟨false, [], [1]⟩, 0) e w') := by
  have hlt := h.lt
  have hb := wd_lt h.b32 m
  have C1 := bal w (.cells #[.bool false, .slice none 0 0, .slice none 0 0, .bool false, .slice none 0 0, .slice none 0 0] 26)
  have S1 := SB.new w [.bool false, .slice none 0 0, .slice none 0 0, .bool false, .slice none 0 0, .slice none 0 0] 26
  have hI := int_any 0 (w.alloc (.cells #[.bool false, .slice none 0 0, .slice none 0 0, .bool false, .slice none 0 0, .slice none 0 0] 26)) (by omega) (by omega)
  have T1 : ((wd l m / 2147483648 : Nat) : Int) = 0 := by omega
  have T1 := Lib.hid T1
  clear hd
  go_enter Tryz.func29, Tryz.ntmps29
  go_wp2_with fail
  refine hI.mono ?_; rintro e w3 ⟨A1, c1, D1, d1, A2, c2, D2, d2, rfl, O1, O2, O3, O4, B3⟩
  rw [rwq_zi] at O1 O2 ⊢
  rw [rwq_z'] at O3 O4 ⊢
  dsimp only [List.length_nil, List.length_cons, Nat.zero_add] at O1 O2 O3 O4 ⊢
  have L3 := bal w3 (.cells #[.bool false, .slice A1 0 c1, .slice D1 1 d1, .bool false, .slice A2 0 c2, .slice D2 1 d2] 26)
  have Sn := SB.new w3 [.bool false, .slice A1 0 c1, .slice D1 1 d1, .bool false, .slice A2 0 c2, .slice D2 1 d2] 26
  have S4 := (S1.nx B3).nx L3
  have C4 := bt (bt C1 B3) L3
  have z3 := (S1.nx B3).2
  have hw0 : (w.alloc (.cells #[.bool false, .slice none 0 0, .slice none 0 0, .bool false, .slice none 0 0, .slice none 0 0] 26)).heap.size = w.heap.size + 1 := by simp
  have b2 := O2.bet
  have b3 := O3.bet
  have b4 := O4.bet
  have o2 := O2.alloc (.cells #[.bool false, .slice A1 0 c1, .slice D1 1 d1, .bool false, .slice A2 0 c2, .slice D2 1 d2] 26)
  have o3 := O3.alloc (.cells #[.bool false, .slice A1 0 c1, .slice D1 1 d1, .bool false, .slice A2 0 c2, .slice D2 1 d2] 26)
  have o4 := O4.alloc (.cells #[.bool false, .slice A1 0 c1, .slice D1 1 d1, .bool false, .slice A2 0 c2, .slice D2 1 d2] 26)
  have h4 := h.below C4 (Nat.le_refl _)
  obtain ⟨W4, hW4⟩ : ∃ W4, W4 = w3.alloc (.cells #[.bool false, .slice A1 0 c1, .slice D1 1 d1, .bool false, .slice A2 0 c2, .slice D2 1 d2] 26) := ⟨_, rfl⟩
  go_upto_region 2 with fail
  rw [← hW4] at S4 C4 o2 o3 o4 h4 Sn ⊢
  clear hW4 S1 B3 L3 C1 O1 O2 O3 O4
  have cg := h4.cell (k := m) (by omega)
  have hne : w3.heap.size ≠ g := by omega
  have hown : ∀ A cc ll, OW W4 (w.alloc (.cells #[.bool false, .slice none 0 0, .slice none 0 0, .bool false, .slice none 0 0, .slice none 0 0] 26)).heap.size A cc ll → ∀ g', A = some ⟨g', 0, none⟩ → some g ≠ some g' := fun A cc ll O g' hA hs => by
    subst hA
    have := O.lt.1
    simp at this hs
    omega
  have C4 := C4.mono hbase

  subst hl'
  have HT := trim_any (some ⟨g, 0, none⟩) c (m + 1) l' W4 hll.symm h4.rw
  rw [trim_len h4.b32] at HT
  have hdl : (digs (val l')).length ≤ m + 1 := by rw [← trim_len h4.b32, ← hll]; exact trimN_le _ _
  have hlc : m + 1 ≤ c := by have := h4.lc; omega
  have hN := h4.norm
  clear h4 hll
  obtain ⟨d, hd⟩ : ∃ d, Hid (digs (val l') = d) := ⟨_, rfl⟩
  rw [hd.out] at HT hdl hN
  go_wp2_with fail
  refine HT.mono ?_; rintro e w7 ⟨rfl, rfl⟩
  clear HT
  have i1 := Sn.cell 1
  have f1 := Sn.frozen 1
  go_upto_region 6 with fail
  clear i1 f1
  have Sn := Sn.set 1 (.slice (some ⟨g, 0, none⟩) d.length c)
  have S4 := S4.far (p := ⟨w3.heap.size, 1, none⟩) (by show w.heap.size ≠ w3.heap.size; omega) (.slice (some ⟨g, 0, none⟩) d.length c)
  have C4 := C4.setCell (p := ⟨w3.heap.size, 1, none⟩) (by show base ≤ w3.heap.size; omega) (.slice (some ⟨g, 0, none⟩) d.length c)
  have hN := hN.far (p := ⟨w3.heap.size, 1, none⟩) (fun g' hA => by cases hA; show g ≠ w3.heap.size; omega) (.slice (some ⟨g, 0, none⟩) d.length c)
  have o2 := o2.far (p := ⟨w3.heap.size, 1, none⟩) (fun g' hA => by have := b2 g' hA; have h' := hw0; show g' ≠ w3.heap.size; omega) (.slice (some ⟨g, 0, none⟩) d.length c)
  have o3 := o3.far (p := ⟨w3.heap.size, 1, none⟩) (fun g' hA => by have := b3 g' hA; have h' := hw0; show g' ≠ w3.heap.size; omega) (.slice (some ⟨g, 0, none⟩) d.length c)
  have o4 := o4.far (p := ⟨w3.heap.size, 1, none⟩) (fun g' hA => by have := b4 g' hA; have h' := hw0; show g' ≠ w3.heap.size; omega) (.slice (some ⟨g, 0, none⟩) d.length c)

  obtain ⟨w8, hW8⟩ : ∃ w8, w8 = W4.setCell ⟨w3.heap.size, 1, none⟩ (.slice (some ⟨g, 0, none⟩) d.length c) := ⟨_, rfl⟩
  rw [← hW8] at Sn S4 C4 hN o2 o3 o4 ⊢
  clear hW8
  clear h
  by_cases h5 : 512 < d.length
  · have hRC := S4.rc (n := 6)
    have n0 := Sn.cell 0
    have n1 := Sn.cell 1
    go_wp2_with (refine wp_st6 rfl (.tmp 2) (.tmp 29) rfl _ rfl _ _ _ _ _ _ rfl hRC rfl rfl rfl rfl rfl rfl ?_)
    have s6 := hRC.put6 (.bool false) (.slice none 0 0) (.slice none 0 0) (.bool false) (.slice none 0 0) (.slice none 0 0)
    have B6 := wr6_below (b := w.heap.size) C4 hbase (.bool false) (.slice none 0 0) (.slice none 0 0) (.bool false) (.slice none 0 0) (.slice none 0 0)
    have r0' := s6.cell 0
    have r1' := s6.cell 1
    have r2' := s6.cell 2
    have r3' := s6.cell 3
    have r4' := s6.cell 4
    have r5' := s6.cell 5
    refine bodyPost_ret (v := .tuple #[.agg #[.bool false, .slice none 0 0, .slice none 0 0, .bool false, .slice none 0 0, .slice none 0 0], .int .i64 4]) (by simp [results, r0', r1', r2', r3', r4', r5', go_sem]) rfl ?_
    rw [hd.out]
    exact ⟨fun _ => retNB_nil 4 B6, fun h => absurd h5 (by omega)⟩
  · have hRC := S4.rc (n := 6)
    have n0 := Sn.cell 0
    have n1 := Sn.cell 1
    have n2 := Sn.cell 2
    have n3 := Sn.cell 3
    have n4 := Sn.cell 4
    have n5 := Sn.cell 5
    go_wp2_with (refine wp_st6 rfl (.tmp 2) (.tmp 30) rfl _ rfl _ _ _ _ _ _ rfl hRC rfl rfl rfl rfl rfl rfl ?_)
    clear n0 n1 n2 n3 n4 n5
    have s6 := hRC.put6 (.bool false) (.slice (some ⟨g, 0, none⟩) d.length c) (.slice D1 1 d1) (.bool false) (.slice A2 0 c2) (.slice D2 1 d2)
    have B6 := wr6_below (b := w.heap.size) C4 hbase (.bool false) (.slice (some ⟨g, 0, none⟩) d.length c) (.slice D1 1 d1) (.bool false) (.slice A2 0 c2) (.slice D2 1 d2)
    have o3 := o3.put6 (b := w.heap.size) (by omega) (.bool false) (.slice (some ⟨g, 0, none⟩) d.length c) (.slice D1 1 d1) (.bool false) (.slice A2 0 c2) (.slice D2 1 d2)
    have o4 := o4.put6 (b := w.heap.size) (by omega) (.bool false) (.slice (some ⟨g, 0, none⟩) d.length c) (.slice D1 1 d1) (.bool false) (.slice A2 0 c2) (.slice D2 1 d2)
    have o2 := o2.put6 (b := w.heap.size) (by omega) (.bool false) (.slice (some ⟨g, 0, none⟩) d.length c) (.slice D1 1 d1) (.bool false) (.slice A2 0 c2) (.slice D2 1 d2)
    have hN := hN.putg (b := w.heap.size) (by omega) (.bool false) (.slice (some ⟨g, 0, none⟩) d.length c) (.slice D1 1 d1) (.bool false) (.slice A2 0 c2) (.slice D2 1 d2)
    have r0' := s6.cell 0
    have r1' := s6.cell 1
    have r2' := s6.cell 2
    have r3' := s6.cell 3
    have r4' := s6.cell 4
    have r5' := s6.cell 5
    refine bodyPost_ret (v := .tuple #[.agg #[.bool false, .slice (some ⟨g, 0, none⟩) d.length c, .slice D1 1 d1, .bool false, .slice A2 0 c2, .slice D2 1 d2], .int .i64 0]) (by simp [results, r0', r1', r2', r3', r4', r5', go_sem]) rfl ?_
    rw [hd.out]
    exact ⟨fun h => absurd h h5, fun _ => ⟨_, _, _, _, _, _, _, _, rfl, hN, o2.base_le (by omega), o3.base_le (by omega), o4.base_le (by omega), B6⟩⟩


set_option maxRecDepth 100000 in
set_option maxHeartbeats 8000000 in
theorem bnum_true (g c m : Nat) (l : List Nat) (w : World) (base : Nat) (h : OW w base (some ⟨g, 0, none⟩) c l) (hl : l.length = m + 1) (hm : m < 1000000) (hbase : base ≤ w.heap.size)
    (hd : wd l m / 2147483648 = 1) (l' : List Nat) (hl' : l' = wordsN (m + 1) ((Wp (m + 1) - val l) % Wp (m + 1))) (hll : l'.length = m + 1) :
    Calls Tryz.prog 29 #[.slice (some ⟨g, 0, none⟩) (m + 1) c] w fun e w' => (512 < (digs (val l')).length → RetNB base w (rw0, rw0, 4) e w') ∧ ((digs (val l')).length ≤ 512 → RetNB base w (⟨true, digs (val l'), [1]⟩, ⟨false, [], [1]⟩, 0) e w') := by
  have hlt := h.lt
  have hb := wd_lt h.b32 m
  have C1 := bal w (.cells #[.bool false, .slice none 0 0, .slice none 0 0, .bool false, .slice none 0 0, .slice none 0 0] 26)
  have S1 := SB.new w [.bool false, .slice none 0 0, .slice none 0 0, .bool false, .slice none 0 0, .slice none 0 0] 26
  have hI := int_any 0 (w.alloc (.cells #[.bool false, .slice none 0 0, .slice none 0 0, .bool false, .slice none 0 0, .slice none 0 0] 26)) (by omega) (by omega)
  have T1 : ((wd l m / 2147483648 : Nat) : Int) = 1 := by omega
  have T1 := Lib.hid T1
  clear hd
  go_enter Tryz.func29, Tryz.ntmps29
  go_wp2_with fail
  refine hI.mono ?_; rintro e w3 ⟨A1, c1, D1, d1, A2, c2, D2, d2, rfl, O1, O2, O3, O4, B3⟩
  rw [rwq_zi] at O1 O2 ⊢
  rw [rwq_z'] at O3 O4 ⊢
  dsimp only [List.length_nil, List.length_cons, Nat.zero_add] at O1 O2 O3 O4 ⊢
  have L3 := bal w3 (.cells #[.bool false, .slice A1 0 c1, .slice D1 1 d1, .bool false, .slice A2 0 c2, .slice D2 1 d2] 26)
  have Sn := SB.new w3 [.bool false, .slice A1 0 c1, .slice D1 1 d1, .bool false, .slice A2 0 c2, .slice D2 1 d2] 26
  have S4 := (S1.nx B3).nx L3
  have C4 := bt (bt C1 B3) L3
  have z3 := (S1.nx B3).2
  have hw0 : (w.alloc (.cells #[.bool false, .slice none 0 0, .slice none 0 0, .bool false, .slice none 0 0, .slice none 0 0] 26)).heap.size = w.heap.size + 1 := by simp
  have b2 := O2.bet
  have b3 := O3.bet
  have b4 := O4.bet
  have o2 := O2.alloc (.cells #[.bool false, .slice A1 0 c1, .slice D1 1 d1, .bool false, .slice A2 0 c2, .slice D2 1 d2] 26)
  have o3 := O3.alloc (.cells #[.bool false, .slice A1 0 c1, .slice D1 1 d1, .bool false, .slice A2 0 c2, .slice D2 1 d2] 26)
  have o4 := O4.alloc (.cells #[.bool false, .slice A1 0 c1, .slice D1 1 d1, .bool false, .slice A2 0 c2, .slice D2 1 d2] 26)
  have h4 := h.below C4 (Nat.le_refl _)
  obtain ⟨W4, hW4⟩ : ∃ W4, W4 = w3.alloc (.cells #[.bool false, .slice A1 0 c1, .slice D1 1 d1, .bool false, .slice A2 0 c2, .slice D2 1 d2] 26) := ⟨_, rfl⟩
  go_upto_region 2 with fail
  rw [← hW4] at S4 C4 o2 o3 o4 h4 Sn ⊢
  clear hW4 S1 B3 L3 C1 O1 O2 O3 O4
  have cg := h4.cell (k := m) (by omega)
  have hne : w3.heap.size ≠ g := by omega
  have hown : ∀ A cc ll, OW W4 (w.alloc (.cells #[.bool false, .slice none 0 0, .slice none 0 0, .bool false, .slice none 0 0, .slice none 0 0] 26)).heap.size A cc ll → ∀ g', A = some ⟨g', 0, none⟩ → some g ≠ some g' := fun A cc ll O g' hA hs => by
    subst hA
    have := O.lt.1
    simp at this hs
    omega
  have C4 := C4.mono hbase
  have hT := turn_any g c l W4 base h4
  rw [hl, ← hl'] at hT
  go_wp2_with fail
  refine hT.mono ?_; rintro e w5 ⟨rfl, O5, B5, G5⟩
  clear hT cg T1
  have o2 := o2.grown G5 (hown _ _ _ o2)
  have o3 := o3.grown G5 (hown _ _ _ o3)
  have o4 := o4.grown G5 (hown _ _ _ o4)
  have Sn := Sn.grown G5 hne
  have S4 := S4.grown G5 (by omega)
  have C4 := C4.trans B5
  have i0 := Sn.cell 0
  have f0 := Sn.frozen 0
  go_upto_region 5 with fail
  clear i0 f0
  have Sn := Sn.set 0 (.bool true)
  have S4 := S4.far (p := ⟨w3.heap.size, 0, none⟩) (by show w.heap.size ≠ w3.heap.size; omega) (.bool true)
  have C4 := C4.setCell (p := ⟨w3.heap.size, 0, none⟩) (by show base ≤ w3.heap.size; omega) (.bool true)
  have O6 := O5.far (p := ⟨w3.heap.size, 0, none⟩) (fun g' hA => by cases hA; show g ≠ w3.heap.size; omega) (.bool true)
  have o2 := o2.far (p := ⟨w3.heap.size, 0, none⟩) (fun g' hA => by have := b2 g' hA; have h' := hw0; show g' ≠ w3.heap.size; omega) (.bool true)
  have o3 := o3.far (p := ⟨w3.heap.size, 0, none⟩) (fun g' hA => by have := b3 g' hA; have h' := hw0; show g' ≠ w3.heap.size; omega) (.bool true)
  have o4 := o4.far (p := ⟨w3.heap.size, 0, none⟩) (fun g' hA => by have := b4 g' hA; have h' := hw0; show g' ≠ w3.heap.size; omega) (.bool true)
  obtain ⟨w6, hW6⟩ : ∃ w6, w6 = w5.setCell ⟨w3.heap.size, 0, none⟩ (.bool true) := ⟨_, rfl⟩
  rw [← hW6] at Sn S4 C4 O6 o2 o3 o4 ⊢
  clear hW6 O5

  have HT := trim_any (some ⟨g, 0, none⟩) c (m + 1) l' w6 hll.symm O6.rw
  rw [trim_len O6.b32] at HT
  have hdl : (digs (val l')).length ≤ m + 1 := by rw [← trim_len O6.b32, ← hll]; exact trimN_le _ _
  have hlc : m + 1 ≤ c := by have := O6.lc; omega
  have hN := O6.norm
  clear O6 hll
  obtain ⟨d, hd⟩ : ∃ d, Hid (digs (val l') = d) := ⟨_, rfl⟩
  rw [hd.out] at HT hdl hN
  go_wp2_with fail
  refine HT.mono ?_; rintro e w7 ⟨rfl, rfl⟩
  clear HT
  have i1 := Sn.cell 1
  have f1 := Sn.frozen 1
  go_upto_region 6 with fail
  clear i1 f1
  have Sn := Sn.set 1 (.slice (some ⟨g, 0, none⟩) d.length c)
  have S4 := S4.far (p := ⟨w3.heap.size, 1, none⟩) (by show w.heap.size ≠ w3.heap.size; omega) (.slice (some ⟨g, 0, none⟩) d.length c)
  have C4 := C4.setCell (p := ⟨w3.heap.size, 1, none⟩) (by show base ≤ w3.heap.size; omega) (.slice (some ⟨g, 0, none⟩) d.length c)
  have hN := hN.far (p := ⟨w3.heap.size, 1, none⟩) (fun g' hA => by cases hA; show g ≠ w3.heap.size; omega) (.slice (some ⟨g, 0, none⟩) d.length c)
  have o2 := o2.far (p := ⟨w3.heap.size, 1, none⟩) (fun g' hA => by have := b2 g' hA; have h' := hw0; show g' ≠ w3.heap.size; omega) (.slice (some ⟨g, 0, none⟩) d.length c)
  have o3 := o3.far (p := ⟨w3.heap.size, 1, none⟩) (fun g' hA => by have := b3 g' hA; have h' := hw0; show g' ≠ w3.heap.size; omega) (.slice (some ⟨g, 0, none⟩) d.length c)
  have o4 := o4.far (p := ⟨w3.heap.size, 1, none⟩) (fun g' hA => by have := b4 g' hA; have h' := hw0; show g' ≠ w3.heap.size; omega) (.slice (some ⟨g, 0, none⟩) d.length c)

  obtain ⟨w8, hW8⟩ : ∃ w8, w8 = w6.setCell ⟨w3.heap.size, 1, none⟩ (.slice (some ⟨g, 0, none⟩) d.length c) := ⟨_, rfl⟩
  rw [← hW8] at Sn S4 C4 hN o2 o3 o4 ⊢
  clear hW8
  clear h
  by_cases h5 : 512 < d.length
  · have hRC := S4.rc (n := 6)
    have n0 := Sn.cell 0
    have n1 := Sn.cell 1
    go_wp2_with (refine wp_st6 rfl (.tmp 2) (.tmp 29) rfl _ rfl _ _ _ _ _ _ rfl hRC rfl rfl rfl rfl rfl rfl ?_)
    have s6 := hRC.put6 (.bool false) (.slice none 0 0) (.slice none 0 0) (.bool false) (.slice none 0 0) (.slice none 0 0)
    have B6 := wr6_below (b := w.heap.size) C4 hbase (.bool false) (.slice none 0 0) (.slice none 0 0) (.bool false) (.slice none 0 0) (.slice none 0 0)
    have r0' := s6.cell 0
    have r1' := s6.cell 1
    have r2' := s6.cell 2
    have r3' := s6.cell 3
    have r4' := s6.cell 4
    have r5' := s6.cell 5
    refine bodyPost_ret (v := .tuple #[.agg #[.bool false, .slice none 0 0, .slice none 0 0, .bool false, .slice none 0 0, .slice none 0 0], .int .i64 4]) (by simp [results, r0', r1', r2', r3', r4', r5', go_sem]) rfl ?_
    rw [hd.out]
    exact ⟨fun _ => retNB_nil 4 B6, fun h => absurd h5 (by omega)⟩
  · have hRC := S4.rc (n := 6)
    have n0 := Sn.cell 0
    have n1 := Sn.cell 1
    have n2 := Sn.cell 2
    have n3 := Sn.cell 3
    have n4 := Sn.cell 4
    have n5 := Sn.cell 5
    go_wp2_with (refine wp_st6 rfl (.tmp 2) (.tmp 30) rfl _ rfl _ _ _ _ _ _ rfl hRC rfl rfl rfl rfl rfl rfl ?_)
    clear n0 n1 n2 n3 n4 n5
    have s6 := hRC.put6 (.bool true) (.slice (some ⟨g, 0, none⟩) d.length c) (.slice D1 1 d1) (.bool false) (.slice A2 0 c2) (.slice D2 1 d2)
    have B6 := wr6_below (b := w.heap.size) C4 hbase (.bool true) (.slice (some ⟨g, 0, none⟩) d.length c) (.slice D1 1 d1) (.bool false) (.slice A2 0 c2) (.slice D2 1 d2)
    have o3 := o3.put6 (b := w.heap.size) (by omega) (.bool true) (.slice (some ⟨g, 0, none⟩) d.length c) (.slice D1 1 d1) (.bool false) (.slice A2 0 c2) (.slice D2 1 d2)
    have o4 := o4.put6 (b := w.heap.size) (by omega) (.bool true) (.slice (some ⟨g, 0, none⟩) d.length c) (.slice D1 1 d1) (.bool false) (.slice A2 0 c2) (.slice D2 1 d2)
    have o2 := o2.put6 (b := w.heap.size) (by omega) (.bool true) (.slice (some ⟨g, 0, none⟩) d.length c) (.slice D1 1 d1) (.bool false) (.slice A2 0 c2) (.slice D2 1 d2)
    have hN := hN.putg (b := w.heap.size) (by omega) (.bool true) (.slice (some ⟨g, 0, none⟩) d.length c) (.slice D1 1 d1) (.bool false) (.slice A2 0 c2) (.slice D2 1 d2)
    have r0' := s6.cell 0
    have r1' := s6.cell 1
    have r2' := s6.cell 2
    have r3' := s6.cell 3
    have r4' := s6.cell 4
    have r5' := s6.cell 5
    refine bodyPost_ret (v := .tuple #[.agg #[.bool true, .slice (some ⟨g, 0, none⟩) d.length c, .slice D1 1 d1, .bool false, .slice A2 0 c2, .slice D2 1 d2], .int .i64 0]) (by simp [results, r0', r1', r2', r3', r4', r5', go_sem]) rfl ?_
    rw [hd.out]
    exact ⟨fun h => absurd h h5, fun _ => ⟨_, _, _, _, _, _, _, _, rfl, hN, o2.base_le (by omega), o3.base_le (by omega), o4.base_le (by omega), B6⟩⟩

/-- number: what a row is -/
theorem bnum_any (g c : Nat) (l : List Nat) (w : World) (base : Nat) (h : OW w base (some ⟨g, 0, none⟩) c l) (h0 : 0 < l.length) (h1 : l.length ≤ 1000000) (hbase : base ≤ w.heap.size) :
    Calls Tryz.prog 29 #[.slice (some ⟨g, 0, none⟩) l.length c] w (RetNB base w (fitQ ((tcI (32 * l.length) (val l) : Int) : Rat) 0)) := by
  obtain ⟨m, hm⟩ : ∃ m, l.length = m + 1 := ⟨l.length - 1, by omega⟩
  rcases top_sign h.b32 h0 with ⟨hd, hv⟩ | ⟨hd, hv⟩
  · obtain ⟨e, hn⟩ := num_neg h.b32 hv
    rw [e]
    rw [hm] at hd
    have hw := wordsN_val (n := l.length) (v := (Wp l.length - val l) % Wp l.length) (Nat.mod_lt _ (Wp_pos _))
    rw [hm] at hw hn ⊢
    refine (bnum_true g c m l w base h hm (by omega) hbase hd _ rfl (wordsN_len ..)).mono ?_
    rintro e' w' ⟨k1, k2⟩
    rw [hw] at k1 k2
    by_cases h5 : 512 < (digs ((Wp (m + 1) - val l) % Wp (m + 1))).length
    · rw [fit_big h5]; exact k1 h5
    · rw [fit_int (fun h => absurd h hn) (by omega)]; exact k2 (by omega)
  · rw [num_pos hv]
    rw [hm] at hd ⊢
    refine (bnum_false g c m l w base h hm (by omega) hbase hd _ rfl hm).mono ?_
    rintro e' w' ⟨k1, k2⟩
    by_cases h5 : 512 < (digs (val l)).length
    · rw [fit_big h5]; exact k1 h5
    · rw [fit_int (fun _ => rfl) (by omega)]; exact k2 (by omega)

end Go.Proofs.YtbgggepdlkbpoaaGreatDoor
namespace Go.Proofs.YtbgggepdlkbpoaaGreatDoor
open Go.RowKit


set_option maxRecDepth 100000 in
set_option maxHeartbeats 16000000 in
theorem each_bad_Or (s1 s2 t1 t2 : Bool) (a1 b1 a2 b2 e1 f1 e2 f2 : List Nat) (A1 D1 A2 D2 E1 F1 E2 F2 : Option Addr) (c1 d1 c2 d2 j1 k1 j2 k2 : Nat) (w : World) (p1 : RW w w.heap.size A1 c1 a1) (p2 : RW w w.heap.size D1 d1 b1) (p3 : RW w w.heap.size A2 c2 a2) (p4 : RW w w.heap.size D2 d2 b2) (q1 : RW w w.heap.size E1 j1 e1) (q2 : RW w w.heap.size F1 k1 f1) (q3 : RW w w.heap.size E2 j2 e2) (q4 : RW w w.heap.size F2 k2 f2) (k : Int) (hk : bchkN2 ⟨s1, a1, b1⟩ ⟨s2, a2, b2⟩ ⟨t1, e1, f1⟩ ⟨t2, e2, f2⟩ = k) (hk0 : (k == 0) = false) :
    Calls Tryz.prog 30 #[(.agg #[.bool s1, .slice A1 a1.length c1, .slice D1 b1.length d1, .bool s2, .slice A2 a2.length c2, .slice D2 b2.length d2]), (.agg #[.bool t1, .slice E1 e1.length j1, .slice F1 f1.length k1, .bool t2, .slice E2 e2.length j2, .slice F2 f2.length k2]), .func (.func 31) #[] #[]] w (RetNE w (rw0, rw0, k)) := by
  have kk0 := S3.new w [.bool s1, .slice A1 a1.length c1, .slice D1 b1.length d1, .bool s2, .slice A2 a2.length c2, .slice D2 b2.length d2] [.bool t1, .slice E1 e1.length j1, .slice F1 f1.length k1, .bool t2, .slice E2 e2.length j2, .slice F2 f2.length k2] [.bool false, .slice none 0 0, .slice none 0 0, .bool false, .slice none 0 0, .slice none 0 0] 26 26 26 6
  have LB4 := bal (((w.alloc (.cells #[.bool s1, .slice A1 a1.length c1, .slice D1 b1.length d1, .bool s2, .slice A2 a2.length c2, .slice D2 b2.length d2] 26)).alloc (.cells #[.bool t1, .slice E1 e1.length j1, .slice F1 f1.length k1, .bool t2, .slice E2 e2.length j2, .slice F2 f2.length k2] 26)).alloc (.cells #[.bool false, .slice none 0 0, .slice none 0 0, .bool false, .slice none 0 0, .slice none 0 0] 26)) (.cells #[.bool s1, .slice A1 a1.length c1, .slice D1 b1.length d1, .bool s2, .slice A2 a2.length c2, .slice D2 b2.length d2, .bool t1, .slice E1 e1.length j1, .slice F1 f1.length k1, .bool t2, .slice E2 e2.length j2, .slice F2 f2.length k2] 26)
  have kk1 := kk0.nx LB4
  have SG := SB.new (((w.alloc (.cells #[.bool s1, .slice A1 a1.length c1, .slice D1 b1.length d1, .bool s2, .slice A2 a2.length c2, .slice D2 b2.length d2] 26)).alloc (.cells #[.bool t1, .slice E1 e1.length j1, .slice F1 f1.length k1, .bool t2, .slice E2 e2.length j2, .slice F2 f2.length k2] 26)).alloc (.cells #[.bool false, .slice none 0 0, .slice none 0 0, .bool false, .slice none 0 0, .slice none 0 0] 26)) [.bool s1, .slice A1 a1.length c1, .slice D1 b1.length d1, .bool s2, .slice A2 a2.length c2, .slice D2 b2.length d2, .bool t1, .slice E1 e1.length j1, .slice F1 f1.length k1, .bool t2, .slice E2 e2.length j2, .slice F2 f2.length k2] 26
  have z3 : (((w.alloc (.cells #[.bool s1, .slice A1 a1.length c1, .slice D1 b1.length d1, .bool s2, .slice A2 a2.length c2, .slice D2 b2.length d2] 26)).alloc (.cells #[.bool t1, .slice E1 e1.length j1, .slice F1 f1.length k1, .bool t2, .slice E2 e2.length j2, .slice F2 f2.length k2] 26)).alloc (.cells #[.bool false, .slice none 0 0, .slice none 0 0, .bool false, .slice none 0 0, .slice none 0 0] 26)).heap.size = w.heap.size + 3 := by simp
  rw [z3] at SG
  have hC := fun w' hg h1 h2 h3 h4 g1 g2 g3 g4 => bcheck2_any (w.heap.size + 3) s1 a1 b1 s2 a2 b2 A1 c1 D1 d1 A2 c2 D2 d2 t1 e1 f1 t2 e2 f2 E1 j1 F1 k1 E2 j2 F2 k2 w' hg h1 h2 h3 h4 g1 g2 g3 g4
  have BW := kk1.2.2.2
  obtain ⟨W, hW⟩ : ∃ W, W = (((w.alloc (.cells #[.bool s1, .slice A1 a1.length c1, .slice D1 b1.length d1, .bool s2, .slice A2 a2.length c2, .slice D2 b2.length d2] 26)).alloc (.cells #[.bool t1, .slice E1 e1.length j1, .slice F1 f1.length k1, .bool t2, .slice E2 e2.length j2, .slice F2 f2.length k2] 26)).alloc (.cells #[.bool false, .slice none 0 0, .slice none 0 0, .bool false, .slice none 0 0, .slice none 0 0] 26)).alloc (.cells #[.bool s1, .slice A1 a1.length c1, .slice D1 b1.length d1, .bool s2, .slice A2 a2.length c2, .slice D2 b2.length d2, .bool t1, .slice E1 e1.length j1, .slice F1 f1.length k1, .bool t2, .slice E2 e2.length j2, .slice F2 f2.length k2] 26) := ⟨_, rfl⟩
  have i0 := kk0.1.cell 0
  have i1 := kk0.1.cell 1
  have i2 := kk0.1.cell 2
  have i3 := kk0.1.cell 3
  have i4 := kk0.1.cell 4
  have i5 := kk0.1.cell 5
  have j0 := kk0.2.1.cell 0
  have j1' := kk0.2.1.cell 1
  have j2' := kk0.2.1.cell 2
  have j3 := kk0.2.1.cell 3
  have j4 := kk0.2.1.cell 4
  have j5 := kk0.2.1.cell 5
  simp only [hk] at hC
  have Hk := Lib.hid hk
  clear hk
  have n0 : (k != 0) = true := by simp [bne, hk0]
  go_enter Tryz.func30, Tryz.ntmps30
  go_wp2_with fail
  rw [← hW] at kk1 SG BW ⊢
  clear hW kk0 i0 i1 i2 i3 i4 i5 j0 j1' j2' j3 j4 j5
  refine (hC W SG (st p1 BW) (st p2 BW) (st p3 BW) (st p4 BW) (st q1 BW) (st q2 BW) (st q3 BW) (st q4 BW)).mono ?_; rintro e w5 ⟨rfl, B5⟩
  clear hC
  have kk5 := kk1.nx B5
  have hRC := kk5.2.2.1
  go_wp2_with (refine wp_st6 rfl (.tmp 6) (.tmp 19) rfl _ rfl _ _ _ _ _ _ rfl hRC rfl rfl rfl rfl rfl rfl ?_)
  have s6 := kk5.2.2.1.put6 (.bool false) (.slice none 0 0) (.slice none 0 0) (.bool false) (.slice none 0 0) (.slice none 0 0)
  have B6 := wr6_below (b := w.heap.size + 2) kk5.2.2.2 (by omega) (.bool false) (.slice none 0 0) (.slice none 0 0) (.bool false) (.slice none 0 0) (.slice none 0 0)
  have r0' := s6.cell 0
  have r1' := s6.cell 1
  have r2' := s6.cell 2
  have r3' := s6.cell 3
  have r4' := s6.cell 4
  have r5' := s6.cell 5
  refine bodyPost_ret (v := .tuple #[.agg #[.bool false, .slice none 0 0, .slice none 0 0, .bool false, .slice none 0 0, .slice none 0 0], .int .i64 k]) (by simp [results, r0', r1', r2', r3', r4', r5', go_sem]) rfl ?_
  exact retNE_nil k B6


set_option maxRecDepth 100000 in
set_option maxHeartbeats 16000000 in
theorem each_bad_Not (s1 s2 t1 t2 : Bool) (a1 b1 a2 b2 e1 f1 e2 f2 : List Nat) (A1 D1 A2 D2 E1 F1 E2 F2 : Option Addr) (c1 d1 c2 d2 j1 k1 j2 k2 : Nat) (w : World) (p1 : RW w w.heap.size A1 c1 a1) (p2 : RW w w.heap.size D1 d1 b1) (p3 : RW w w.heap.size A2 c2 a2) (p4 : RW w w.heap.size D2 d2 b2) (q1 : RW w w.heap.size E1 j1 e1) (q2 : RW w w.heap.size F1 k1 f1) (q3 : RW w w.heap.size E2 j2 e2) (q4 : RW w w.heap.size F2 k2 f2) (k : Int) (hk : bchkN2 ⟨s1, a1, b1⟩ ⟨s2, a2, b2⟩ ⟨t1, e1, f1⟩ ⟨t2, e2, f2⟩ = k) (hk0 : (k == 0) = false) :
    Calls Tryz.prog 30 #[(.agg #[.bool s1, .slice A1 a1.length c1, .slice D1 b1.length d1, .bool s2, .slice A2 a2.length c2, .slice D2 b2.length d2]), (.agg #[.bool t1, .slice E1 e1.length j1, .slice F1 f1.length k1, .bool t2, .slice E2 e2.length j2, .slice F2 f2.length k2]), .func (.func 42) #[] #[]] w (RetNE w (rw0, rw0, k)) := by
  have kk0 := S3.new w [.bool s1, .slice A1 a1.length c1, .slice D1 b1.length d1, .bool s2, .slice A2 a2.length c2, .slice D2 b2.length d2] [.bool t1, .slice E1 e1.length j1, .slice F1 f1.length k1, .bool t2, .slice E2 e2.length j2, .slice F2 f2.length k2] [.bool false, .slice none 0 0, .slice none 0 0, .bool false, .slice none 0 0, .slice none 0 0] 26 26 26 6
  have LB4 := bal (((w.alloc (.cells #[.bool s1, .slice A1 a1.length c1, .slice D1 b1.length d1, .bool s2, .slice A2 a2.length c2, .slice D2 b2.length d2] 26)).alloc (.cells #[.bool t1, .slice E1 e1.length j1, .slice F1 f1.length k1, .bool t2, .slice E2 e2.length j2, .slice F2 f2.length k2] 26)).alloc (.cells #[.bool false, .slice none 0 0, .slice none 0 0, .bool false, .slice none 0 0, .slice none 0 0] 26)) (.cells #[.bool s1, .slice A1 a1.length c1, .slice D1 b1.length d1, .bool s2, .slice A2 a2.length c2, .slice D2 b2.length d2, .bool t1, .slice E1 e1.length j1, .slice F1 f1.length k1, .bool t2, .slice E2 e2.length j2, .slice F2 f2.length k2] 26)
  have kk1 := kk0.nx LB4
  have SG := SB.new (((w.alloc (.cells #[.bool s1, .slice A1 a1.length c1, .slice D1 b1.length d1, .bool s2, .slice A2 a2.length c2, .slice D2 b2.length d2] 26)).alloc (.cells #[.bool t1, .slice E1 e1.length j1, .slice F1 f1.length k1, .bool t2, .slice E2 e2.length j2, .slice F2 f2.length k2] 26)).alloc (.cells #[.bool false, .slice none 0 0, .slice none 0 0, .bool false, .slice none 0 0, .slice none 0 0] 26)) [.bool s1, .slice A1 a1.length c1, .slice D1 b1.length d1, .bool s2, .slice A2 a2.length c2, .slice D2 b2.length d2, .bool t1, .slice E1 e1.length j1, .slice F1 f1.length k1, .bool t2, .slice E2 e2.length j2, .slice F2 f2.length k2] 26
  have z3 : (((w.alloc (.cells #[.bool s1, .slice A1 a1.length c1, .slice D1 b1.length d1, .bool s2, .slice A2 a2.length c2, .slice D2 b2.length d2] 26)).alloc (.cells #[.bool t1, .slice E1 e1.length j1, .slice F1 f1.length k1, .bool t2, .slice E2 e2.length j2, .slice F2 f2.length k2] 26)).alloc (.cells #[.bool false, .slice none 0 0, .slice none 0 0, .bool false, .slice none 0 0, .slice none 0 0] 26)).heap.size = w.heap.size + 3 := by simp
  rw [z3] at SG
  have hC := fun w' hg h1 h2 h3 h4 g1 g2 g3 g4 => bcheck2_any (w.heap.size + 3) s1 a1 b1 s2 a2 b2 A1 c1 D1 d1 A2 c2 D2 d2 t1 e1 f1 t2 e2 f2 E1 j1 F1 k1 E2 j2 F2 k2 w' hg h1 h2 h3 h4 g1 g2 g3 g4
  have BW := kk1.2.2.2
  obtain ⟨W, hW⟩ : ∃ W, W = (((w.alloc (.cells #[.bool s1, .slice A1 a1.length c1, .slice D1 b1.length d1, .bool s2, .slice A2 a2.length c2, .slice D2 b2.length d2] 26)).alloc (.cells #[.bool t1, .slice E1 e1.length j1, .slice F1 f1.length k1, .bool t2, .slice E2 e2.length j2, .slice F2 f2.length k2] 26)).alloc (.cells #[.bool false, .slice none 0 0, .slice none 0 0, .bool false, .slice none 0 0, .slice none 0 0] 26)).alloc (.cells #[.bool s1, .slice A1 a1.length c1, .slice D1 b1.length d1, .bool s2, .slice A2 a2.length c2, .slice D2 b2.length d2, .bool t1, .slice E1 e1.length j1, .slice F1 f1.length k1, .bool t2, .slice E2 e2.length j2, .slice F2 f2.length k2] 26) := ⟨_, rfl⟩
  have i0 := kk0.1.cell 0
  have i1 := kk0.1.cell 1
  have i2 := kk0.1.cell 2
  have i3 := kk0.1.cell 3
  have i4 := kk0.1.cell 4
  have i5 := kk0.1.cell 5
  have j0 := kk0.2.1.cell 0
  have j1' := kk0.2.1.cell 1
  have j2' := kk0.2.1.cell 2
  have j3 := kk0.2.1.cell 3
  have j4 := kk0.2.1.cell 4
  have j5 := kk0.2.1.cell 5
  simp only [hk] at hC
  have Hk := Lib.hid hk
  clear hk
  have n0 : (k != 0) = true := by simp [bne, hk0]
  go_enter Tryz.func30, Tryz.ntmps30
  go_wp2_with fail
  rw [← hW] at kk1 SG BW ⊢
  clear hW kk0 i0 i1 i2 i3 i4 i5 j0 j1' j2' j3 j4 j5
  refine (hC W SG (st p1 BW) (st p2 BW) (st p3 BW) (st p4 BW) (st q1 BW) (st q2 BW) (st q3 BW) (st q4 BW)).mono ?_; rintro e w5 ⟨rfl, B5⟩
  clear hC
  have kk5 := kk1.nx B5
  have hRC := kk5.2.2.1
  go_wp2_with (refine wp_st6 rfl (.tmp 6) (.tmp 19) rfl _ rfl _ _ _ _ _ _ rfl hRC rfl rfl rfl rfl rfl rfl ?_)
  have s6 := kk5.2.2.1.put6 (.bool false) (.slice none 0 0) (.slice none 0 0) (.bool false) (.slice none 0 0) (.slice none 0 0)
  have B6 := wr6_below (b := w.heap.size + 2) kk5.2.2.2 (by omega) (.bool false) (.slice none 0 0) (.slice none 0 0) (.bool false) (.slice none 0 0) (.slice none 0 0)
  have r0' := s6.cell 0
  have r1' := s6.cell 1
  have r2' := s6.cell 2
  have r3' := s6.cell 3
  have r4' := s6.cell 4
  have r5' := s6.cell 5
  refine bodyPost_ret (v := .tuple #[.agg #[.bool false, .slice none 0 0, .slice none 0 0, .bool false, .slice none 0 0, .slice none 0 0], .int .i64 k]) (by simp [results, r0', r1', r2', r3', r4', r5', go_sem]) rfl ?_
  exact retNE_nil k B6

end Go.Proofs.YtbgggepdlkbpoaaGreatDoor
