/- Walks: a nil heap. -/
import Derived.Test.YtpiinjemmdnoiaaProg
import Derived.WalkKit
import Derived.Lib.Hide
import Derived.BigQuiet
import Derived.Deep.QuietTactic
import Derived.Deep.RegionWith
import Derived.Deep.Draws
import Derived.Maps.AppendAt
import Derived.Maps.Own
import Derived.Below
import Derived.Laws.MakeOwn
import Derived.Deep.DeepCutAuto
import Derived.RegionTactic
import Derived.BigRegion
import Derived.Laws.Rows
namespace Go.Proofs.Ytpiinjemmdnoiaa
open Go.RowKit Go.Maps
/-- a struct's cells in a block -/
def SB (w : World) (b : Nat) (vs : List Value) : Prop := (∀ i v, vs[i]? = some v → w.cell? ⟨b, i, none⟩ = some v ∧ w.frozen? ⟨b, i, none⟩ = false) ∧ b < w.heap.size
theorem SB.new (w : World) (vs : List Value) (t : TypeId) : SB (w.alloc (.cells vs.toArray t)) w.heap.size vs := by
  have h0 := heap_alloc_new w (.cells vs.toArray t)
  refine ⟨fun i v hv => ⟨?_, ?_⟩, by simp⟩
  · rw [cell_of_row _ _ _ _ _ _ h0]; simpa using hv
  · unfold World.frozen?; rw [h0]; rfl
section
variable {w w' : World} {b B : Nat} {vs : List Value}
theorem SB.cell (h : SB w b vs) (i : Nat) {v : Value} (hv : vs[i]? = some v := by rfl) : w.cell? ⟨b, i, none⟩ = some v := (h.1 i v hv).1
theorem SB.frozen (h : SB w b vs) (i : Nat) {v : Value} (hv : vs[i]? = some v := by rfl) : w.frozen? ⟨b, i, none⟩ = false := (h.1 i v hv).2
theorem SB.lt (h : SB w b vs) : b < w.heap.size := h.2
theorem SB.below (h : SB w b vs) (hb : Below B w w') (hB : b < B) : SB w' b vs :=
  ⟨fun i v hv => ⟨(hb.cell hB).trans (h.1 i v hv).1, (hb.frozen hB).trans (h.1 i v hv).2⟩, Nat.lt_of_lt_of_le h.2 hb.size⟩
theorem SB.nx (h : SB w b vs) (hb : Below w.heap.size w w') : SB w' b vs := h.below hb h.2
theorem SB.far (h : SB w b vs) {p : Addr} (hp : b ≠ p.block) (v : Value) : SB (w.setCell p v) b vs :=
  ⟨fun i x hx => ⟨(World.cell?_setCell_other w _ _ v (fun e => hp (by rw [e]))).trans (h.1 i x hx).1, (World.frozen?_setCell w _ _ v).trans (h.1 i x hx).2⟩, by simpa [World.setCell] using h.2⟩
theorem SB.set (h : SB w b vs) (k : Nat) (v : Value) : SB (w.setCell ⟨b, k, none⟩ v) b (vs.set k v) := by
  refine ⟨fun i x hx => ?_, by simpa [World.setCell] using h.2⟩
  rw [List.getElem?_set] at hx
  split at hx
  · rename_i e; subst e
    split at hx
    · rename_i hl
      injection hx with hx; subst hx
      have h0 := h.1 k _ (List.getElem?_eq_getElem hl)
      exact ⟨World.cell?_setCell_same w _ v h0.1, (World.frozen?_setCell w _ _ v).trans h0.2⟩
    · cases hx
  · rename_i e
    exact ⟨(World.cell?_setCell_other w _ _ v (fun e2 => e (by cases e2; rfl))).trans (h.1 i x hx).1, (World.frozen?_setCell w _ _ v).trans (h.1 i x hx).2⟩
end

set_option maxRecDepth 100000 in
theorem find_nil (x : Int) (w : World) : Calls Try.prog 16 #[.pointer none, .int .i64 x] w fun e w' => e = .returned (.tuple #[.pointer none, .int .i64 1]) ∧ w = w' := by
  go_enter Try.func16, Try.ntmps16
  go_wp2_with fail
  go_ret2
  exact ⟨rfl, rfl⟩
set_option maxRecDepth 100000 in
theorem word_nil (x i : Int) (w : World) : Calls Try.prog 15 #[.pointer none, .int .i64 x, .int .i64 i] w fun e w' => e = .returned (.tuple #[.pointer none, .int .i64 1]) ∧ w = w' := by
  go_enter Try.func15, Try.ntmps15
  go_wp2_with fail
  refine (find_nil _ _).mono ?_; rintro e w2 ⟨rfl, rfl⟩
  go_wp2_with fail
  go_ret2
  exact ⟨rfl, rfl⟩
set_option maxRecDepth 100000 in
theorem alloc_nil (x : Int) (w : World) : Calls Try.prog 4 #[.pointer none, .int .i64 x] w fun e w' => e = .returned (.tuple #[.int .i64 0, .int .i64 1]) ∧ w = w' := by
  go_enter Try.func4, Try.ntmps4
  go_wp2_with fail
  go_ret2
  exact ⟨rfl, rfl⟩
set_option maxRecDepth 100000 in
theorem size_nil (x : Int) (w : World) : Calls Try.prog 6 #[.pointer none, .int .i64 x] w fun e w' => e = .returned (.tuple #[.int .i64 0, .int .i64 1]) ∧ w = w' := by
  go_enter Try.func6, Try.ntmps6
  go_wp2_with fail
  refine (find_nil _ _).mono ?_; rintro e w2 ⟨rfl, rfl⟩
  go_wp2_with fail
  go_ret2
  exact ⟨rfl, rfl⟩
set_option maxRecDepth 100000 in
theorem place_nil (x : Int) (w : World) : Calls Try.prog 7 #[.pointer none, .int .i64 x] w fun e w' => e = .returned (.tuple #[.int .i64 0, .int .i64 1]) ∧ w = w' := by
  go_enter Try.func7, Try.ntmps7
  go_wp2_with fail
  refine (find_nil _ _).mono ?_; rintro e w2 ⟨rfl, rfl⟩
  go_wp2_with fail
  go_ret2
  exact ⟨rfl, rfl⟩
set_option maxRecDepth 100000 in
theorem collect_nil (v : Value) (w : World) : Calls Try.prog 8 #[.pointer none, v] w fun e w' => e = .returned (.tuple #[.int .i64 0, .int .i64 1]) ∧ w = w' := by
  go_enter Try.func8, Try.ntmps8
  go_wp2_with fail
  go_ret2
  exact ⟨rfl, rfl⟩
set_option maxRecDepth 100000 in
theorem free_nil  (w : World) : Calls Try.prog 9 #[.pointer none] w fun e w' => e = .returned (.tuple #[.int .i64 0, .int .i64 0]) ∧ w = w' := by
  go_enter Try.func9, Try.ntmps9
  go_wp2_with fail
  go_ret2
  exact ⟨rfl, rfl⟩
set_option maxRecDepth 100000 in
theorem live_nil  (w : World) : Calls Try.prog 12 #[.pointer none] w fun e w' => e = .returned (.slice none 0 0) ∧ w = w' := by
  go_enter Try.func12, Try.ntmps12
  go_wp2_with fail
  go_ret
  exact ⟨rfl, rfl⟩

set_option maxRecDepth 100000 in
theorem get_nil (x i : Int) (w : World) : Calls Try.prog 5 #[.pointer none, .int .i64 x, .int .i64 i] w fun e w' => e = .returned (.tuple #[.agg #[.int .i64 0, .bool false], .int .i64 1]) ∧ Below w.heap.size w w' := by
  have S := SB.new w [.int .i64 0, .bool false] 23
  have r0 := S.cell 0
  have r1 := S.cell 1
  go_enter Try.func5, Try.ntmps5
  go_wp2_with fail
  refine (word_nil _ _ _).mono ?_; rintro e w2 ⟨rfl, rfl⟩
  go_wp2_with fail
  refine bodyPost_ret (v := .tuple #[.agg #[.int .i64 0, .bool false], .int .i64 1]) (by simp [results, r0, r1, go_sem]) rfl ?_
  exact ⟨rfl, (Below.refl _ _).alloc (Nat.le_refl _) _⟩
set_option maxRecDepth 100000 in
theorem set_nil (x i n : Int) (b : Bool) (w : World) : Calls Try.prog 11 #[.pointer none, .int .i64 x, .int .i64 i, .agg #[.int .i64 n, .bool b]] w fun e w' => e = .returned (.int .i64 1) ∧ Below w.heap.size w w' := by
  go_enter Try.func11, Try.ntmps11
  go_wp2_with fail
  refine (word_nil _ _ _).mono ?_; rintro e w2 ⟨rfl, rfl⟩
  go_wp2_with fail
  go_ret
  exact ⟨rfl, (Below.refl _ _).alloc (Nat.le_refl _) _⟩
theorem grown_set (w : World) (a : Addr) (u : Value) : w.grownBy (w.setCell a u) (some a.block) := ⟨rfl, rfl, rfl, by simp [World.setCell], fun k _ hk => heap_setCell_other w a k u (fun e => hk (by simp [e]))⟩
theorem bal (w : World) (o : Obj) : Below w.heap.size w (w.alloc o) := (Below.refl _ _).alloc (Nat.le_refl _) _
theorem bdN {B : Nat} {a w : World} (h : Below B a w) (n : Nat) : Below B a (w.drewN n) := h.trans ⟨rfl, rfl, rfl, Nat.le_refl _, fun _ _ => rfl⟩
abbrev RX : Value → Option (DataW Unit × List MemPlace) := fun _ => some (.nil, [])
def OM (w : World) (m : Nat) (n : Nat) (D : DataW Unit) : Prop := w.ownsMap Try.prog 3 RX m n D
theorem new_ok (w : World) : Calls Try.prog 18 #[.int .i64 10, .int .i64 40] w fun e w' => e = .returned (.tuple #[.pointer (some ⟨w.heap.size + 1, 0, none⟩), .int .i64 0]) ∧
    SB w' (w.heap.size + 1) [.int .i64 10, .int .i64 40, .int .i64 0, .int .i64 0, .map (some w.heap.size)] ∧ OM w' w.heap.size 0 (.map []) ∧ Below w.heap.size w w' := by
  have hmm := @run_makeMap Try.prog
  have h1 := World.ownsMap_made w Try.prog 3 RX
  have z1 : (w.alloc (.map #[] 0)).heap.size = w.heap.size + 1 := by simp
  have S := SB.new (w.alloc (.map #[] 0)) [.int .i64 10, .int .i64 40, .int .i64 0, .int .i64 0, .map (some w.heap.size)] 40
  rw [z1] at S
  go_enter Try.func18, Try.ntmps18
  go_wp2_with fail
  go_ret2
  refine ⟨rfl, S, h1.alloc _, ((Below.refl _ _).alloc (Nat.le_refl _) _).alloc (by simp) _⟩
theorem SB.grown {w w' : World} {b m : Nat} {vs : List Value} (h : SB w b vs) (hg : w.grownBy w' (some m)) (hne : b ≠ m) : SB w' b vs := by
  have hb := hg.block b h.2 (by simpa using hne)
  refine ⟨fun i v hv => ⟨hg.cell (h.1 i v hv).1 (by simpa using hne), ?_⟩, Nat.lt_of_lt_of_le h.2 hg.size⟩
  have hf := (h.1 i v hv).2
  unfold World.frozen? at hf ⊢
  rw [hb]
  exact hf
theorem infoC : (Try.prog.info? 23).map (fun i => (i.zero, i.size, i.bytes)) = some (some (.agg #[.int .i64 0, .bool false]), 2, 16) := by kernel_rfl
theorem made_four : ∃ CC : Array Value, ∀ w : World, (Instr.makeSlice 44 (.int .i64 4) (.int .i64 4)).run Try.prog w = .ok (.slice (some ⟨w.heap.size, 0, none⟩) 4 4) (w.alloc (.cells CC 23)) := by
  obtain ⟨i0, hi, hz0, hz1, hz2⟩ := info_parts infoC
  exact ⟨_, fun w => run_make w _ _ i0 _ Try.underlying44 hi hz0 .i64 .i64 4 4 (by omega) (by omega) (by rw [hz2]; omega) (by omega)⟩
theorem key1 : keyOf Try.prog 3 (Value.int .i64 1) = some (Lit.int .i64 1) := keyOf_int_mk Try.underlying3 (by decide)
set_option maxRecDepth 100000 in
set_option maxHeartbeats 2000000 in
theorem large_no (o : Nat) (A : Option Addr) (p : Value) (w : World) (hS : SB w o [.slice A 4 4, p]) : Calls Try.prog 14 #[.pointer (some ⟨o, 0, none⟩)] w fun e w' => e = .returned (.bool false) ∧ w = w' := by
  have i0 := hS.cell 0
  go_enter Try.func14, Try.ntmps14
  go_wp2_with fail
  go_ret
  exact ⟨rfl, rfl⟩
set_option maxRecDepth 100000 in
set_option maxHeartbeats 2000000 in
theorem alloc_four (h m : Nat) (w : World) (hS : SB w h [.int .i64 10, .int .i64 40, .int .i64 0, .int .i64 0, .map (some m)]) (hM : OM w m 0 (.map [])) (hne : h ≠ m) (base : Nat) (hb : base ≤ h ∧ base ≤ m) :
    Calls Try.prog 4 #[.pointer (some ⟨h, 0, none⟩), .int .i64 4] w fun e w' => e = .returned (.tuple #[.int .i64 1, .int .i64 0]) ∧
    SB w' h [.int .i64 10, .int .i64 40, .int .i64 4, .int .i64 1, .map (some m)] ∧ Below base w w' := by
  have i0 := hS.cell 0
  have i2 := hS.cell 2
  have i3 := hS.cell 3
  have f3 := hS.frozen 3
  obtain ⟨CC, hms⟩ := made_four
  have hmw := hM.lt
  go_enter Try.func4, Try.ntmps4
  go_wp2_with fail
  go_quiet (fail)
  have B1 := bdN (Below.refl w.heap.size w) nq
  have S1 := hS.nx B1
  have M1 : OM (w.drewN nq) m 0 (.map []) := hM.kept (row := none) ⟨rfl, rfl, rfl, Nat.le_refl _, fun _ _ _ => rfl⟩ (by simp)
  obtain ⟨W1, hW1⟩ : ∃ W1, W1 = w.drewN nq := ⟨_, rfl⟩
  have z1 : W1.heap.size = w.heap.size := by rw [hW1]; rfl
  rw [← hW1] at S1 M1 B1 ⊢
  clear hW1 i0 i2 i3 f3
  have i3 := S1.cell 3
  have f3 := S1.frozen 3
  have i2 := S1.cell 2
  go_upto_region 10 with fail
  obtain ⟨W9, hW9⟩ : ∃ W9, W9 = (((W1.setCell ⟨h, 3, none⟩ (.int .i64 1)).alloc (.cells CC 23)).alloc (.cells #[.slice (some ⟨w.heap.size, 0, none⟩) 4 4, .int .i64 0] 46)) := ⟨_, rfl⟩
  have g8 := grown_set W1 ⟨h, 3, none⟩ (.int .i64 1)
  have M8 : OM (W1.setCell ⟨h, 3, none⟩ (.int .i64 1)) m 0 (.map []) := M1.kept g8 (by simp; omega)
  have S8 := S1.set 3 (.int .i64 1)
  have L1 := bal (W1.setCell ⟨h, 3, none⟩ (.int .i64 1)) (.cells CC 23)
  have L2 := bal ((W1.setCell ⟨h, 3, none⟩ (.int .i64 1)).alloc (.cells CC 23)) (.cells #[.slice (some ⟨w.heap.size, 0, none⟩) 4 4, .int .i64 0] 46)
  have So := SB.new ((W1.setCell ⟨h, 3, none⟩ (.int .i64 1)).alloc (.cells CC 23)) [.slice (some ⟨w.heap.size, 0, none⟩) 4 4, .int .i64 0] 46
  rw [show ((W1.setCell ⟨h, 3, none⟩ (.int .i64 1)).alloc (.cells CC 23)).heap.size = w.heap.size + 1 by simp [World.setCell, z1]] at So
  have S9 := (S8.nx L1).nx L2
  have M9 : OM _ m 0 (.map []) := (M8.alloc (.cells CC 23)).alloc (.cells #[.slice (some ⟨w.heap.size, 0, none⟩) 4 4, .int .i64 0] 46)
  have hbl : base ≤ w.heap.size := Nat.le_trans hb.1 (Nat.le_of_lt hS.2)
  have B9 := ((((Below.refl base w).trans (B1.mono hbl)).setCell (p := ⟨h, 3, none⟩) hb.1 (.int .i64 1)).alloc (o := .cells CC 23) (by simp [World.setCell, z1]; omega)).alloc (o := .cells #[.slice (some ⟨w.heap.size, 0, none⟩) 4 4, .int .i64 0] 46) (by simp [World.setCell, z1]; omega)
  rw [← hW9] at S9 M9 So B9 ⊢
  have j3 := S9.cell 3
  have j4 := S9.cell 4
  have hm9 : m < W9.heap.size := M9.lt
  clear hW9 i2 i3 f3 S1 M1 S8 M8 L1 L2 g8 B1
  obtain ⟨W10, hrun, M10, g10⟩ := (show (OM W9.drew m 0 (.map [])) from M9.drew).update (val := .pointer (some ⟨w.heap.size + 1, 0, none⟩)) (int_keyed Try.underlying3) Try.underlying38 (by decide) key1 rfl
  have So := (So.nx (Below.drew (Below.refl _ _))).grown g10 (by omega)
  have S10 := (S9.nx (Below.drew (Below.refl _ _))).grown g10 hne
  have B10 := ((Below.drew B9)).grown g10 (by show base ≤ W9.heap.size; omega) (fun k hk => by cases hk; exact hb.2)
  clear S9 M9 g10 B9 M10
  go_region
  clear hrun j3 j4
  have lg := large_no _ _ _ W10 So
  go_upto_region 11 with fail
  go_wp2_with fail
  refine lg.mono ?_; rintro e w2 ⟨rfl, rfl⟩
  clear lg
  have S10 : SB W10 h [.int .i64 10, .int .i64 40, .int .i64 0, .int .i64 1, .map (some m)] := S10
  have i2 := S10.cell 2
  have i3 := S10.cell 3
  have f2 := S10.frozen 2
  have S11 := S10.set 2 (.int .i64 4)
  have B11 := B10.setCell (p := ⟨h, 2, none⟩) hb.1 (.int .i64 4)
  go_wp2_with fail
  go_ret2
  exact ⟨rfl, S11, B11⟩
set_option maxRecDepth 100000 in
set_option maxHeartbeats 2000000 in
theorem alloc_seven (h m : Nat) (w : World) (hS : SB w h [.int .i64 10, .int .i64 40, .int .i64 4, .int .i64 1, .map (some m)]) :
    Calls Try.prog 4 #[.pointer (some ⟨h, 0, none⟩), .int .i64 7] w fun e w' => e = .returned (.tuple #[.int .i64 0, .int .i64 9]) ∧ Below w.heap.size w w' := by
  have i0 := hS.cell 0
  have i2 := hS.cell 2
  go_enter Try.func4, Try.ntmps4
  go_wp2_with fail
  go_quiet (fail)
  have B1 := bdN (Below.refl w.heap.size w) nq
  go_wp2_with fail
  go_ret2
  exact ⟨rfl, B1⟩
set_option maxRecDepth 100000 in
set_option maxHeartbeats 2000000 in
theorem awake_ok (w : World) : Calls Try.prog 10 #[] w fun e w' => e = .returned (.bool true) ∧ Below w.heap.size w w' := by
  go_enter Try.func10, Try.ntmps10
  go_wp2_with fail
  refine (new_ok _).mono ?_; rintro e w2 ⟨rfl, S, M, B⟩
  go_wp2_with fail
  refine (alloc_four _ _ _ S M (by omega) w.heap.size (by omega)).mono ?_; rintro e w3 ⟨rfl, S3, B3⟩
  go_wp2_with fail
  refine (alloc_seven _ _ _ S3).mono ?_; rintro e w4 ⟨rfl, B4⟩
  go_wp2_with fail
  go_ret
  exact ⟨rfl, (B.trans B3).trans (B4.mono (Nat.le_trans B.size B3.size))⟩
set_option maxRecDepth 100000 in
set_option maxHeartbeats 4000000 in
theorem heapNil_walk (x i n : Int) (b : Bool) (w : World) : Calls Try.prog 3 #[.int .i64 x, .int .i64 i, .agg #[.int .i64 n, .bool b]] w fun e w' => e = .returned (.bool true) ∧ Below w.heap.size w w' := by
  have S0 := SB.new w [.int .i64 n, .bool b] 23
  have C0 := bal w (.cells #[.int .i64 n, .bool b] 23)
  go_enter Try.func3, Try.ntmps3
  go_wp2_with fail
  refine (alloc_nil _ _).mono ?_; rintro e w2 ⟨rfl, rfl⟩
  go_wp2_with fail
  refine (get_nil _ _ _).mono ?_; rintro e w3 ⟨rfl, B3⟩
  have S3 := S0.nx B3
  have C3 := C0.trans (B3.mono C0.size)
  have L := bal w3 (.cells #[.int .i64 0, .bool false] 23)
  have S4 := S3.nx L
  have C4 := C3.trans (L.mono C3.size)
  go_wp2_with fail
  refine (size_nil _ _).mono ?_; rintro e w5 ⟨rfl, rfl⟩
  go_wp2_with fail
  refine (place_nil _ _).mono ?_; rintro e w5 ⟨rfl, rfl⟩
  go_wp2_with fail
  refine (collect_nil _ _).mono ?_; rintro e w5 ⟨rfl, rfl⟩
  go_wp2_with fail
  refine (free_nil _).mono ?_; rintro e w5 ⟨rfl, rfl⟩
  have L5 := bal (w3.alloc (.cells #[.int .i64 0, .bool false] 23)) (.cells #[.int .i64 x] 3)
  have S5 := S4.nx L5
  have C5 := C4.trans (L5.mono C4.size)
  go_wp2_with fail
  refine (awake_ok _).mono ?_; rintro e w6 ⟨rfl, B6⟩
  have S6 := S5.nx B6
  have C6 := C5.trans (B6.mono C5.size)
  have c0 := S6.cell 0
  have c1 := S6.cell 1
  clear S0 S3 S4 S5
  go_wp2_with fail
  refine (set_nil _ _ _ _ _).mono ?_; rintro e w7 ⟨rfl, B7⟩
  have C7 := C6.trans (B7.mono C6.size)
  go_wp2_with fail
  refine (live_nil _).mono ?_; rintro e w8 ⟨rfl, rfl⟩
  go_wp2_with fail
  go_ret
  exact ⟨rfl, C7⟩

end Go.Proofs.Ytpiinjemmdnoiaa
