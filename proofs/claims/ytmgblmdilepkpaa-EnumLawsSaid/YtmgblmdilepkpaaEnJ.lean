/- Walks: Union, Meet, Minus, Complement, Project, Subset. -/
import Derived.Test.YtmgblmdilepkpaaEnI
namespace Go.Proofs.Ytmgblmdilepkpaa
open Go.RowKit

set_option maxHeartbeats 2000000 in
theorem union_any (A D E H : Option Addr) (c d e0 h0 : Nat) (u : List Str) (i : List Bool) (v : List Str) (j : List Bool) (w : World) (hu : RS w w.heap.size A c u) (hi : RBo w w.heap.size D d i) (hv : RS w w.heap.size E e0 v) (hj : RBo w w.heap.size H h0 j) :
    Calls Try.prog 19 #[.agg #[.slice A u.length c, .slice D i.length d], .agg #[.slice E v.length e0, .slice H j.length h0]] w (RetSE w (bothA (fun x y => x || y) u i v j)) := by
  obtain ⟨wa, hwa⟩ : ∃ wa, wa = w.alloc (.cells #[.slice A u.length c, .slice D i.length d] 25) := ⟨_, rfl⟩
  obtain ⟨wb, hwb⟩ : ∃ wb, wb = wa.alloc (.cells #[.slice E v.length e0, .slice H j.length h0] 25) := ⟨_, rfl⟩
  have z1 : wa.heap.size = w.heap.size + 1 := by rw [hwa]; simp
  have z2 : wb.heap.size = w.heap.size + 2 := by rw [hwb]; simp [z1]
  have z3 : (wb.alloc (.cells #[.slice none 0 0, .slice none 0 0] 25)).heap.size = w.heap.size + 3 := by simp [z2]
  have a1 : SC wa w.heap.size (.slice A u.length c) (.slice D i.length d) := by rw [hwa]; exact SC.new _ _ _ _
  have b1 : SC wb (w.heap.size + 1) (.slice E v.length e0) (.slice H j.length h0) := by rw [← z1, hwb]; exact SC.new _ _ _ _
  have r0 := SC.new wb (.slice none 0 0) (.slice none 0 0) 25
  rw [z2] at r0
  have ba : Below w.heap.size w wa := by rw [hwa]; exact bal _ _
  have bb : Below wa.heap.size wa wb := by rw [hwb]; exact bal _ _
  have br := bal wb (.cells #[.slice none 0 0, .slice none 0 0] 25)
  have B4 := bt (bt ba bb) br
  have a4 := (a1.nx bb).nx br
  have b4 := b1.nx br
  have m1 := a4.1
  have m2 := a4.2.1
  have m3 := b4.1
  have m4 := b4.2.1
  have hb := both_Union A D E H c d e0 h0 u i v j _ (st hu B4) (st hi B4) (st hv B4) (st hj B4)
  generalize bothA (fun x y => x || y) u i v j = R at *
  obtain ⟨U, I, K0⟩ := R
  subst hwb
  subst hwa
  go_enter Try.func19, Try.ntmps19
  go_wp2_with fail
  refine hb.mono ?_; rintro e w8 ⟨A8, c8, D8, d8, rfl, O8, P8, B8⟩
  have r8 := r0.nx B8
  have k1 := r8.1
  have k2 := r8.2.1
  have k3 := r8.2.2.1
  have k4 := r8.2.2.2.1
  have cp := r8.put (.slice A8 U.length c8) (.slice D8 I.length d8)
  have p1 := cp.1
  have p2 := cp.2.1
  have bp := put_below (b := w.heap.size + 2) (bt B4 B8) (by omega) (.slice A8 U.length c8) (.slice D8 I.length d8)
  go_wp2_with fail
  refine bodyPost_ret (v := .tuple #[.agg #[.slice A8 U.length c8, .slice D8 I.length d8], .int .i64 K0]) (by simp [results, p1, p2, go_sem]) rfl ?_
  have hlt := r0.2.2.2.2
  exact ⟨A8, c8, D8, d8, rfl, (O8.put hlt _ _).base_le B4.size, (P8.put hlt _ _).base_le B4.size, bp⟩

set_option maxHeartbeats 2000000 in
theorem meet_any (A D E H : Option Addr) (c d e0 h0 : Nat) (u : List Str) (i : List Bool) (v : List Str) (j : List Bool) (w : World) (hu : RS w w.heap.size A c u) (hi : RBo w w.heap.size D d i) (hv : RS w w.heap.size E e0 v) (hj : RBo w w.heap.size H h0 j) :
    Calls Try.prog 21 #[.agg #[.slice A u.length c, .slice D i.length d], .agg #[.slice E v.length e0, .slice H j.length h0]] w (RetSE w (bothA (fun x y => x && y) u i v j)) := by
  obtain ⟨wa, hwa⟩ : ∃ wa, wa = w.alloc (.cells #[.slice A u.length c, .slice D i.length d] 25) := ⟨_, rfl⟩
  obtain ⟨wb, hwb⟩ : ∃ wb, wb = wa.alloc (.cells #[.slice E v.length e0, .slice H j.length h0] 25) := ⟨_, rfl⟩
  have z1 : wa.heap.size = w.heap.size + 1 := by rw [hwa]; simp
  have z2 : wb.heap.size = w.heap.size + 2 := by rw [hwb]; simp [z1]
  have z3 : (wb.alloc (.cells #[.slice none 0 0, .slice none 0 0] 25)).heap.size = w.heap.size + 3 := by simp [z2]
  have a1 : SC wa w.heap.size (.slice A u.length c) (.slice D i.length d) := by rw [hwa]; exact SC.new _ _ _ _
  have b1 : SC wb (w.heap.size + 1) (.slice E v.length e0) (.slice H j.length h0) := by rw [← z1, hwb]; exact SC.new _ _ _ _
  have r0 := SC.new wb (.slice none 0 0) (.slice none 0 0) 25
  rw [z2] at r0
  have ba : Below w.heap.size w wa := by rw [hwa]; exact bal _ _
  have bb : Below wa.heap.size wa wb := by rw [hwb]; exact bal _ _
  have br := bal wb (.cells #[.slice none 0 0, .slice none 0 0] 25)
  have B4 := bt (bt ba bb) br
  have a4 := (a1.nx bb).nx br
  have b4 := b1.nx br
  have m1 := a4.1
  have m2 := a4.2.1
  have m3 := b4.1
  have m4 := b4.2.1
  have hb := both_Meet A D E H c d e0 h0 u i v j _ (st hu B4) (st hi B4) (st hv B4) (st hj B4)
  generalize bothA (fun x y => x && y) u i v j = R at *
  obtain ⟨U, I, K0⟩ := R
  subst hwb
  subst hwa
  go_enter Try.func21, Try.ntmps21
  go_wp2_with fail
  refine hb.mono ?_; rintro e w8 ⟨A8, c8, D8, d8, rfl, O8, P8, B8⟩
  have r8 := r0.nx B8
  have k1 := r8.1
  have k2 := r8.2.1
  have k3 := r8.2.2.1
  have k4 := r8.2.2.2.1
  have cp := r8.put (.slice A8 U.length c8) (.slice D8 I.length d8)
  have p1 := cp.1
  have p2 := cp.2.1
  have bp := put_below (b := w.heap.size + 2) (bt B4 B8) (by omega) (.slice A8 U.length c8) (.slice D8 I.length d8)
  go_wp2_with fail
  refine bodyPost_ret (v := .tuple #[.agg #[.slice A8 U.length c8, .slice D8 I.length d8], .int .i64 K0]) (by simp [results, p1, p2, go_sem]) rfl ?_
  have hlt := r0.2.2.2.2
  exact ⟨A8, c8, D8, d8, rfl, (O8.put hlt _ _).base_le B4.size, (P8.put hlt _ _).base_le B4.size, bp⟩

set_option maxHeartbeats 2000000 in
theorem minus_any (A D E H : Option Addr) (c d e0 h0 : Nat) (u : List Str) (i : List Bool) (v : List Str) (j : List Bool) (w : World) (hu : RS w w.heap.size A c u) (hi : RBo w w.heap.size D d i) (hv : RS w w.heap.size E e0 v) (hj : RBo w w.heap.size H h0 j) :
    Calls Try.prog 22 #[.agg #[.slice A u.length c, .slice D i.length d], .agg #[.slice E v.length e0, .slice H j.length h0]] w (RetSE w (bothA (fun x y => x && !y) u i v j)) := by
  obtain ⟨wa, hwa⟩ : ∃ wa, wa = w.alloc (.cells #[.slice A u.length c, .slice D i.length d] 25) := ⟨_, rfl⟩
  obtain ⟨wb, hwb⟩ : ∃ wb, wb = wa.alloc (.cells #[.slice E v.length e0, .slice H j.length h0] 25) := ⟨_, rfl⟩
  have z1 : wa.heap.size = w.heap.size + 1 := by rw [hwa]; simp
  have z2 : wb.heap.size = w.heap.size + 2 := by rw [hwb]; simp [z1]
  have z3 : (wb.alloc (.cells #[.slice none 0 0, .slice none 0 0] 25)).heap.size = w.heap.size + 3 := by simp [z2]
  have a1 : SC wa w.heap.size (.slice A u.length c) (.slice D i.length d) := by rw [hwa]; exact SC.new _ _ _ _
  have b1 : SC wb (w.heap.size + 1) (.slice E v.length e0) (.slice H j.length h0) := by rw [← z1, hwb]; exact SC.new _ _ _ _
  have r0 := SC.new wb (.slice none 0 0) (.slice none 0 0) 25
  rw [z2] at r0
  have ba : Below w.heap.size w wa := by rw [hwa]; exact bal _ _
  have bb : Below wa.heap.size wa wb := by rw [hwb]; exact bal _ _
  have br := bal wb (.cells #[.slice none 0 0, .slice none 0 0] 25)
  have B4 := bt (bt ba bb) br
  have a4 := (a1.nx bb).nx br
  have b4 := b1.nx br
  have m1 := a4.1
  have m2 := a4.2.1
  have m3 := b4.1
  have m4 := b4.2.1
  have hb := both_Minus A D E H c d e0 h0 u i v j _ (st hu B4) (st hi B4) (st hv B4) (st hj B4)
  generalize bothA (fun x y => x && !y) u i v j = R at *
  obtain ⟨U, I, K0⟩ := R
  subst hwb
  subst hwa
  go_enter Try.func22, Try.ntmps22
  go_wp2_with fail
  refine hb.mono ?_; rintro e w8 ⟨A8, c8, D8, d8, rfl, O8, P8, B8⟩
  have r8 := r0.nx B8
  have k1 := r8.1
  have k2 := r8.2.1
  have k3 := r8.2.2.1
  have k4 := r8.2.2.2.1
  have cp := r8.put (.slice A8 U.length c8) (.slice D8 I.length d8)
  have p1 := cp.1
  have p2 := cp.2.1
  have bp := put_below (b := w.heap.size + 2) (bt B4 B8) (by omega) (.slice A8 U.length c8) (.slice D8 I.length d8)
  go_wp2_with fail
  refine bodyPost_ret (v := .tuple #[.agg #[.slice A8 U.length c8, .slice D8 I.length d8], .int .i64 K0]) (by simp [results, p1, p2, go_sem]) rfl ?_
  have hlt := r0.2.2.2.2
  exact ⟨A8, c8, D8, d8, rfl, (O8.put hlt _ _).base_le B4.size, (P8.put hlt _ _).base_le B4.size, bp⟩

set_option maxHeartbeats 2000000 in
theorem complement_any (A D : Option Addr) (c d : Nat) (u : List Str) (i : List Bool) (w : World) (hu : RS w w.heap.size A c u) (hi : RBo w w.heap.size D d i) :
    Calls Try.prog 20 #[.agg #[.slice A u.length c, .slice D i.length d]] w (RetSE w (bothA (fun x _ => !x) u i u i)) := by
  obtain ⟨wa, hwa⟩ : ∃ wa, wa = w.alloc (.cells #[.slice A u.length c, .slice D i.length d] 25) := ⟨_, rfl⟩
  obtain ⟨wb, hwb⟩ : ∃ wb, wb = wa := ⟨_, rfl⟩
  have z1 : wa.heap.size = w.heap.size + 1 := by rw [hwa]; simp
  have z2 : wb.heap.size = w.heap.size + 1 := by rw [hwb]; simp [z1]
  have z3 : (wb.alloc (.cells #[.slice none 0 0, .slice none 0 0] 25)).heap.size = w.heap.size + 2 := by simp [z2]
  have a1 : SC wa w.heap.size (.slice A u.length c) (.slice D i.length d) := by rw [hwa]; exact SC.new _ _ _ _
  have r0 := SC.new wb (.slice none 0 0) (.slice none 0 0) 25
  rw [z2] at r0
  have ba : Below w.heap.size w wa := by rw [hwa]; exact bal _ _
  have bb : Below wa.heap.size wa wb := by rw [hwb]; exact Below.refl _ _
  have br := bal wb (.cells #[.slice none 0 0, .slice none 0 0] 25)
  have B4 := bt (bt ba bb) br
  have a4 := (a1.nx bb).nx br
  have m1 := a4.1
  have m2 := a4.2.1
  have hb := both_Complement A D A D c d c d u i u i _ (st hu B4) (st hi B4) (st hu B4) (st hi B4)
  generalize bothA (fun x _ => !x) u i u i = R at *
  obtain ⟨U, I, K0⟩ := R
  subst hwb
  subst hwa
  go_enter Try.func20, Try.ntmps20
  go_wp2_with fail
  refine hb.mono ?_; rintro e w8 ⟨A8, c8, D8, d8, rfl, O8, P8, B8⟩
  have r8 := r0.nx B8
  have k1 := r8.1
  have k2 := r8.2.1
  have k3 := r8.2.2.1
  have k4 := r8.2.2.2.1
  have cp := r8.put (.slice A8 U.length c8) (.slice D8 I.length d8)
  have p1 := cp.1
  have p2 := cp.2.1
  have bp := put_below (b := w.heap.size + 1) (bt B4 B8) (by omega) (.slice A8 U.length c8) (.slice D8 I.length d8)
  go_wp2_with fail
  refine bodyPost_ret (v := .tuple #[.agg #[.slice A8 U.length c8, .slice D8 I.length d8], .int .i64 K0]) (by simp [results, p1, p2, go_sem]) rfl ?_
  have hlt := r0.2.2.2.2
  exact ⟨A8, c8, D8, d8, rfl, (O8.put hlt _ _).base_le B4.size, (P8.put hlt _ _).base_le B4.size, bp⟩


def projI (u : List K) (i : List Bool) (v : List K) : List Bool := (List.range v.length).map fun k => hasB u i (v.getD k [])
def projA (u : List Str) (i : List Bool) (v : List Str) (j : List Bool) : List Str × List Bool × Int :=
  if sdB (ks u) i && sdB (ks v) j then (v, projI (ks u) i (ks v), 0) else ([], [], 2)
theorem pj_any (q1 : Nat) (A D : Option Addr) (c d : Nat) (u : List Str) (i : List Bool) (k : Int) (y : Str) (w : World) (hl : i.length = u.length) (s1 : SC w q1 (.slice A u.length c) (.slice D i.length d)) (hu : RS w w.heap.size A c u) (hi : RBo w w.heap.size D d i) :
    Calls Try.prog 39 #[.int .i64 k, .string y, .pointer (some ⟨q1, 0, none⟩)] w fun e w' => e = .returned (.bool (hasB (ks u) i y.toList)) ∧ Below w.heap.size w w' := by
  have hh := has_any A D c d u i y w hl hu hi
  have m1 := s1.1
  have m2 := s1.2.1
  clear hl
  go_enter Try.func39, Try.ntmps39
  go_wp2_with fail
  refine hh.mono ?_; rintro e w' ⟨rfl, B⟩
  go_wp2_with fail
  go_ret
  exact ⟨rfl, B⟩
set_option maxRecDepth 100000 in
set_option maxHeartbeats 4000000 in
theorem project_any (A D E H : Option Addr) (c d e0 h0 : Nat) (u : List Str) (i : List Bool) (v : List Str) (j : List Bool) (w : World) (hu : RS w w.heap.size A c u) (hi : RBo w w.heap.size D d i) (hv : RS w w.heap.size E e0 v) (hj : RBo w w.heap.size H h0 j) :
    Calls Try.prog 25 #[.agg #[.slice A u.length c, .slice D i.length d], .agg #[.slice E v.length e0, .slice H j.length h0]] w (RetSE w (projA u i v j)) := by
  obtain ⟨wa, hwa⟩ : ∃ wa, wa = w.alloc (.cells #[.slice A u.length c, .slice D i.length d] 25) := ⟨_, rfl⟩
  obtain ⟨wb, hwb⟩ : ∃ wb, wb = wa.alloc (.cells #[.slice E v.length e0, .slice H j.length h0] 25) := ⟨_, rfl⟩
  have z1 : wa.heap.size = w.heap.size + 1 := by rw [hwa]; simp
  have z2 : wb.heap.size = w.heap.size + 2 := by rw [hwb]; simp [z1]
  have a1 : SC wa w.heap.size (.slice A u.length c) (.slice D i.length d) := by rw [hwa]; exact SC.new _ _ _ _
  have b1 : SC wb (w.heap.size + 1) (.slice E v.length e0) (.slice H j.length h0) := by rw [← z1, hwb]; exact SC.new _ _ _ _
  have r0 := SC.new wb (.slice none 0 0) (.slice none 0 0) 25
  rw [z2] at r0
  have ba : Below w.heap.size w wa := by rw [hwa]; exact bal _ _
  have bb : Below wa.heap.size wa wb := by rw [hwb]; exact bal _ _
  have br := bal wb (.cells #[.slice none 0 0, .slice none 0 0] 25)
  have B4 := bt (bt ba bb) br
  have a4 := (a1.nx bb).nx br
  have b4 := b1.nx br
  have hsa := fun w' x y => sound_any A D c d u i w' x y
  have hsb := fun w' x y => sound_any E H e0 h0 v j w' x y
  have m1 := a4.1
  have m2 := a4.2.1
  subst hwb
  subst hwa
  cases ha : sdB (ks u) i with
  | false =>
    have HR : Hid (projA u i v j = ([], [], 2)) := by show _ = _; unfold projA; rw [ha]; rfl
    simp only [ha] at hsa
    clear ha hsb
    go_enter Try.func25, Try.ntmps25
    go_wp2_with fail
    refine (hsa _ (st hu B4) (st hi B4)).mono ?_; rintro e w5 ⟨rfl, B5⟩
    have r5 := r0.nx B5
    have k1 := r5.1
    have k2 := r5.2.1
    have k3 := r5.2.2.1
    have k4 := r5.2.2.2.1
    have cp := r5.put (.slice none 0 0) (.slice none 0 0)
    have p1 := cp.1
    have p2 := cp.2.1
    have bp := put_below (b := w.heap.size + 2) (bt B4 B5) (by omega) (.slice none 0 0) (.slice none 0 0)
    go_wp2_with fail
    refine bodyPost_ret (v := .tuple #[.agg #[.slice none 0 0, .slice none 0 0], .int .i64 2]) (by simp [results, p1, p2, go_sem]) rfl ?_
    rw [HR.out]
    exact retSE_nil 2 bp
  | true =>
    simp only [ha] at hsa
    cases hb : sdB (ks v) j with
    | false =>
      have HR : Hid (projA u i v j = ([], [], 2)) := by show _ = _; unfold projA; rw [ha, hb]; rfl
      simp only [hb] at hsb
      clear ha hb
      go_enter Try.func25, Try.ntmps25
      go_wp2_with fail
      refine (hsa _ (st hu B4) (st hi B4)).mono ?_; rintro e w5 ⟨rfl, B5⟩
      have b5 := b4.nx B5
      have n1 := b5.1
      have n2 := b5.2.1
      have C5 := bt B4 B5
      go_wp2_with fail
      refine (hsb _ (st hv C5) (st hj C5)).mono ?_; rintro e w6 ⟨rfl, B6⟩
      have r6 := (r0.nx B5).nx B6
      have k1 := r6.1
      have k2 := r6.2.1
      have k3 := r6.2.2.1
      have k4 := r6.2.2.2.1
      have cp := r6.put (.slice none 0 0) (.slice none 0 0)
      have p1 := cp.1
      have p2 := cp.2.1
      have bp := put_below (b := w.heap.size + 2) (bt C5 B6) (by omega) (.slice none 0 0) (.slice none 0 0)
      go_wp2_with fail
      refine bodyPost_ret (v := .tuple #[.agg #[.slice none 0 0, .slice none 0 0], .int .i64 2]) (by simp [results, p1, p2, go_sem]) rfl ?_
      rw [HR.out]
      exact retSE_nil 2 bp
    | true =>
      simp only [hb] at hsb
      have la := sdB_len ha
      have lb := sdB_len hb
      rw [ks_length] at la lb
      have HIL := Lib.hid la.2.1
      have hv64 := lb.1
      have HR : Hid (projA u i v j = (v, projI (ks u) i (ks v), 0)) := by show _ = _; unfold projA; rw [ha, hb]; rfl
      clear ha hb la lb
      go_enter Try.func25, Try.ntmps25
      go_wp2_with fail
      refine (hsa _ (st hu B4) (st hi B4)).mono ?_; rintro e w5 ⟨rfl, B5⟩
      have b5 := b4.nx B5
      have n1 := b5.1
      have n2 := b5.2.1
      have C5 := bt B4 B5
      go_wp2_with fail
      refine (hsb _ (st hv C5) (st hj C5)).mono ?_; rintro e w6 ⟨rfl, B6⟩
      have C6 := bt C5 B6
      have a6 := (a4.nx B5).nx B6
      have b6 := b5.nx B6
      have r6 := (r0.nx B5).nx B6
      have n3 := b6.1
      have u6 := st hu C6
      have i6 := st hi C6
      have v6 := st hv C6
      have hmk := make1_Project E e0 v w6 (some ⟨w.heap.size, 0, none⟩) (fun k => hasB (ks u) i ((ks v).getD k [])) (by omega) v6 (fun k y w' hk hb => by
        have hg : (ks v).getD k [] = y.toList := by rw [List.getD_eq_getElem?_getD, ks_get hk]; rfl
        rw [hg]
        exact pj_any w.heap.size A D c d u i k y w' HIL.out (a6.nx hb) (st u6 hb) (st i6 hb))
      clear hsa hsb
      go_wp2_with fail
      refine hmk.mono ?_; rintro e w8 ⟨A8, c8, D8, d8, rfl, O8, P8, B8⟩
      have r8 := r6.nx B8
      have k1 := r8.1
      have k2 := r8.2.1
      have k3 := r8.2.2.1
      have k4 := r8.2.2.2.1
      have cp := r8.put (.slice A8 v.length c8) (.slice D8 v.length d8)
      have p1 := cp.1
      have p2 := cp.2.1
      have bp := put_below (b := w.heap.size + 2) (bt C6 B8) (by omega) (.slice A8 v.length c8) (.slice D8 v.length d8)
      go_wp2_with fail
      refine bodyPost_ret (v := .tuple #[.agg #[.slice A8 v.length c8, .slice D8 v.length d8], .int .i64 0]) (by simp [results, p1, p2, go_sem]) rfl ?_
      rw [HR.out]
      have hlt : w.heap.size + 2 < w6.heap.size := r6.2.2.2.2
      have hpi : projI (ks u) i (ks v) = (List.range v.length).map (fun k => hasB (ks u) i ((ks v).getD k [])) := by unfold projI; rw [ks_length]
      rw [hpi]
      exact ⟨A8, c8, D8, d8, by simp, (O8.put hlt _ _).base_le C6.size, (P8.put hlt _ _).base_le C6.size, bp⟩

/-- up to the k-th place: what is in the one is in the other -/
def Sb (u : List K) (i : List Bool) (v : List K) (j : List Bool) (k : Nat) : Prop := ∀ t, t < k → i.getD t false = true → hasB v j (u.getD t []) = true
def subB (u : List K) (i : List Bool) (v : List K) (j : List Bool) : Bool := (List.range u.length).all fun t => !(i.getD t false) || hasB v j (u.getD t [])
theorem Sb_end {u v : List K} {i j : List Bool} {k : Nat} (h : Sb u i v j k) (hk : u.length ≤ k) : subB u i v j = true := by
  unfold subB
  rw [List.all_eq_true]
  intro t ht
  rw [List.mem_range] at ht
  cases hi : i.getD t false with
  | false => rfl
  | true => rw [h t (by omega) hi]; rfl
theorem Sb_not {u v : List K} {i j : List Bool} {k : Nat} (hk : k < u.length) (h1 : i.getD k false = true) (h2 : hasB v j (u.getD k []) = false) : subB u i v j = false := by
  rw [Bool.eq_false_iff]
  intro h
  unfold subB at h
  rw [List.all_eq_true] at h
  have := h k (List.mem_range.2 hk)
  rw [h1, h2] at this
  simp at this
theorem Sb_succ {u v : List K} {i j : List Bool} {k : Nat} (h : Sb u i v j k) (h1 : i.getD k false = true → hasB v j (u.getD k []) = true) : Sb u i v j (k + 1) := by
  intro t ht hi
  rcases Nat.lt_or_ge t k with h2 | h2
  · exact h t h2 hi
  · obtain rfl : t = k := by omega
    exact h1 hi
def subA (u : List Str) (i : List Bool) (v : List Str) (j : List Bool) : Bool × Int := if sdB (ks u) i && sdB (ks v) j then (subB (ks u) i (ks v) j, 0) else (false, 2)
set_option maxRecDepth 100000 in
set_option maxHeartbeats 4000000 in
theorem subset_any (A D E H : Option Addr) (c d e0 h0 : Nat) (u : List Str) (i : List Bool) (v : List Str) (j : List Bool) (w : World) (hu : RS w w.heap.size A c u) (hi : RBo w w.heap.size D d i) (hv : RS w w.heap.size E e0 v) (hj : RBo w w.heap.size H h0 j) :
    Calls Try.prog 23 #[.agg #[.slice A u.length c, .slice D i.length d], .agg #[.slice E v.length e0, .slice H j.length h0]] w fun e w' => e = .returned (.tuple #[.bool (subA u i v j).1, .int .i64 (subA u i v j).2]) ∧ Below w.heap.size w w' := by
  obtain ⟨wa, hwa⟩ : ∃ wa, wa = w.alloc (.cells #[.slice A u.length c, .slice D i.length d] 25) := ⟨_, rfl⟩
  have z1 : wa.heap.size = w.heap.size + 1 := by rw [hwa]; simp
  have a1 : SC wa w.heap.size (.slice A u.length c) (.slice D i.length d) := by rw [hwa]; exact SC.new _ _ _ _
  have b1 := SC.new wa (.slice E v.length e0) (.slice H j.length h0) 25
  rw [z1] at b1
  have ba : Below w.heap.size w wa := by rw [hwa]; exact bal _ _
  have bb := bal wa (.cells #[.slice E v.length e0, .slice H j.length h0] 25)
  have B4 := bt ba bb
  have a4 := a1.nx bb
  have b4 := b1
  have hsa := fun w' x y => sound_any A D c d u i w' x y
  have hsb := fun w' x y => sound_any E H e0 h0 v j w' x y
  have m1 := a4.1
  have m2 := a4.2.1
  subst hwa
  cases ha : sdB (ks u) i with
  | false =>
    have HR : Hid (subA u i v j = (false, 2)) := by show _ = _; unfold subA; rw [ha]; rfl
    simp only [ha] at hsa
    clear ha hsb
    go_enter Try.func23, Try.ntmps23
    go_wp2_with fail
    refine (hsa _ (st hu B4) (st hi B4)).mono ?_; rintro e w5 ⟨rfl, B5⟩
    go_wp2_with fail
    go_ret2
    rw [HR.out]
    exact ⟨rfl, bt B4 B5⟩
  | true =>
    simp only [ha] at hsa
    cases hb : sdB (ks v) j with
    | false =>
      have HR : Hid (subA u i v j = (false, 2)) := by show _ = _; unfold subA; rw [ha, hb]; rfl
      simp only [hb] at hsb
      clear ha hb
      go_enter Try.func23, Try.ntmps23
      go_wp2_with fail
      refine (hsa _ (st hu B4) (st hi B4)).mono ?_; rintro e w5 ⟨rfl, B5⟩
      have b5 := b4.nx B5
      have n1 := b5.1
      have n2 := b5.2.1
      have C5 := bt B4 B5
      go_wp2_with fail
      refine (hsb _ (st hv C5) (st hj C5)).mono ?_; rintro e w6 ⟨rfl, B6⟩
      go_wp2_with fail
      go_ret2
      rw [HR.out]
      exact ⟨rfl, bt C5 B6⟩
    | true =>
      simp only [hb] at hsb
      have la := sdB_len ha
      have lb := sdB_len hb
      rw [ks_length] at la lb
      have hu64 := la.1
      have hil1 : u.length ≤ i.length := by omega
      have HJL := Lib.hid lb.2.1
      have HR : Hid (subA u i v j = (subB (ks u) i (ks v) j, 0)) := by show _ = _; unfold subA; rw [ha, hb]; rfl
      clear ha hb la lb
      go_enter Try.func23, Try.ntmps23
      go_wp2_with fail
      refine (hsa _ (st hu B4) (st hi B4)).mono ?_; rintro e w5 ⟨rfl, B5⟩
      have b5 := b4.nx B5
      have n1 := b5.1
      have n2 := b5.2.1
      have C5 := bt B4 B5
      go_wp2_with fail
      refine (hsb _ (st hv C5) (st hj C5)).mono ?_; rintro e w6 ⟨rfl, B6⟩
      have C6 := bt C5 B6
      have a6 := (a4.nx B5).nx B6
      have b6 := b5.nx B6
      have n3 := a6.1
      clear hsa hsb m1 m2 n1 n2 a1 b1 a4 b4
      go_wp2_with fail
      go_loopg [19] u.length (fun gg n wr => ∃ k : Nat, k ≤ u.length ∧ u.length - k = gg ∧ n = .int .i64 (k : Int) ∧ Hid (Sb (ks u) i (ks v) j k) ∧ SC wr w.heap.size (.slice A u.length c) (.slice D i.length d) ∧ SC wr (w.heap.size + 1) (.slice E v.length e0) (.slice H j.length h0) ∧ Below w.heap.size w wr)
      case atStart => exact ⟨0, Nat.zero_le _, rfl, rfl, fun t ht => absurd ht (by omega), a6, b6, C6⟩
      case round =>
        obtain ⟨k, hk, rfl, rfl, hS, sa, sb, B⟩ := hrel
        by_cases h1 : k < u.length
        · obtain ⟨b1, o1, rfl, hlt1, hx⟩ := (st hu B).at_ (by omega)
          obtain ⟨y, hy⟩ : ∃ y, u[k]? = some y := ⟨_, List.getElem?_eq_getElem h1⟩
          have hxk := hx k y hy
          change _ = some (Value.string y) at hxk
          obtain ⟨b2, o2, rfl, hyk⟩ := bool_at (st hi B) (show k < i.length by omega)
          have hg : (ks u).getD k [] = y.toList := by rw [List.getD_eq_getElem?_getD, ks_get hy]; rfl
          have hh := has_any E H e0 h0 v j y wr HJL.out (st hv B) (st hj B)
          have n4 := sa.2.1
          have n5 := sb.1
          have n6 := sb.2.1
          have hki : k < i.length := by omega
          clear hx hy
          cases hb : i.getD k false with
          | false =>
            rw [hb] at hyk
            have HS := Lib.hid (Sb_succ hS.out (by rw [hb]; simp))
            clear hb hg hh
            go_wp2_with fail
            go_roundg (u.length - (k + 1))
            case measure => omega
            case rel => exact ⟨k + 1, by omega, rfl, by go_num, HS, sa, sb, B⟩
          | true =>
            rw [hb] at hyk
            cases hv2 : hasB (ks v) j y.toList with
            | true =>
              rw [hv2] at hh
              have HS := Lib.hid (Sb_succ hS.out (fun _ => by rw [hg]; exact hv2))
              clear hb hg hv2
              go_wp2_with fail
              refine hh.mono ?_; rintro e w7 ⟨rfl, B7⟩
              go_wp2_with fail
              go_roundg (u.length - (k + 1))
              case measure => omega
              case rel => exact ⟨k + 1, by omega, rfl, by go_num, HS, sa.nx B7, sb.nx B7, bt B B7⟩
            | false =>
              rw [hv2] at hh
              have HN := Lib.hid (Sb_not (u := ks u) (by rw [ks_length]; exact h1) hb (by rw [hg]; exact hv2))
              clear hb hg hv2
              go_wp2_with fail
              refine hh.mono ?_; rintro e w7 ⟨rfl, B7⟩
              go_wp2_with fail
              go_ret2
              rw [HR.out, HN.out]
              exact ⟨rfl, bt B B7⟩
        · have HY := Lib.hid (Sb_end hS.out (by rw [ks_length]; omega))
          go_wp2_with fail
          go_ret2
          rw [HR.out, HY.out]
          exact ⟨rfl, B⟩
end Go.Proofs.Ytmgblmdilepkpaa
