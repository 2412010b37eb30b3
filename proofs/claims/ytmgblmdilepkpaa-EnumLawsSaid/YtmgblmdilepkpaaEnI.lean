/- Walks: both with each of its functions; Union, Meet, Minus, Complement. -/
import Derived.Test.YtmgblmdilepkpaaEnG
namespace Go.Proofs.Ytmgblmdilepkpaa
open Go.RowKit

theorem SC1.nx {w w' : World} {b : Nat} {v0 : Value} (h : SC1 w b v0) (hb : Below w.heap.size w w') : SC1 w' b v0 := h.below hb h.2.2
def bothI (g : Bool → Bool → Bool) (n : Nat) (i j : List Bool) : List Bool := (List.range n).map fun k => g (i.getD k false) (j.getD k false)
def bothA (g : Bool → Bool → Bool) (u : List Str) (i : List Bool) (v : List Str) (j : List Bool) : List Str × List Bool × Int :=
  if sdB (ks u) i && sdB (ks v) j then (if ks u = ks v then (u, bothI g u.length i j, 0) else ([], [], 10)) else ([], [], 2)
theorem bothA_no {g : Bool → Bool → Bool} {u v : List Str} {i j : List Bool} (h : (sdB (ks u) i && sdB (ks v) j) = false) : bothA g u i v j = ([], [], 2) := by unfold bothA; rw [h]; rfl
theorem bothA_ne {g : Bool → Bool → Bool} {u v : List Str} {i j : List Bool} (h : (sdB (ks u) i && sdB (ks v) j) = true) (hn : ¬ ks u = ks v) : bothA g u i v j = ([], [], 10) := by unfold bothA; rw [h, if_neg hn]; rfl
theorem bothA_eq {g : Bool → Bool → Bool} {u v : List Str} {i j : List Bool} (h : (sdB (ks u) i && sdB (ks v) j) = true) (hn : ks u = ks v) : bothA g u i v j = (u, bothI g u.length i j, 0) := by unfold bothA; rw [h, if_pos hn]; rfl
theorem bool_at {w : World} {B : Nat} {A : Option Addr} {c : Nat} {l : List Bool} (h : RBo w B A c l) {k : Nat} (hk : k < l.length) : ∃ b off, A = some ⟨b, off, none⟩ ∧ w.cell? ⟨b, off + k, none⟩ = some (.bool (l.getD k false)) := by
  obtain ⟨b, off, e, _, hx⟩ := h.at_ (by omega)
  refine ⟨b, off, e, ?_⟩
  have := hx k l[k] (List.getElem?_eq_getElem hk)
  rw [List.getD_eq_getElem?_getD, List.getElem?_eq_getElem hk]; exact this


theorem in_Union (x y : Bool) (w : World) : Calls Try.prog 34 #[.bool x, .bool y] w fun e w' => e = .returned (.bool ((fun x y => x || y) x y)) ∧ w = w' := by
  cases x <;> cases y <;>
  · go_enter Try.func34, Try.ntmps34
    go_wp2
    go_ret
    exact ⟨rfl, rfl⟩
set_option maxHeartbeats 1000000 in
theorem b1_Union (q1 q2 q3 : Nat) (A E D H : Option Addr) (c e0 d h0 n m : Nat) (i j : List Bool) (k : Nat) (y : Str) (w : World) (hk : k < i.length) (hkj : k < j.length)
    (hp1 : SC1 w q1 (.func (.func 34) #[] #[])) (s2 : SC w q2 (.slice A n c) (.slice D i.length d)) (s3 : SC w q3 (.slice E m e0) (.slice H j.length h0))
    (hi : RBo w w.heap.size D d i) (hj : RBo w w.heap.size H h0 j) :
    Calls Try.prog 42 #[.int .i64 (k : Int), .string y, .pointer (some ⟨q1, 0, none⟩), .pointer (some ⟨q2, 0, none⟩), .pointer (some ⟨q3, 0, none⟩)] w fun e w' => e = .returned (.bool ((fun x y => x || y) (i.getD k false) (j.getD k false))) ∧ Below w.heap.size w w' := by
  have hbi : i.length ≤ 140737488351232 := hi.big
  have hbj : j.length ≤ 140737488351232 := hj.big
  obtain ⟨b1, o1, rfl, hx⟩ := bool_at hi hk
  obtain ⟨b2, o2, rfl, hy⟩ := bool_at hj hkj
  have m1 := hp1.1
  have m2 := s2.2.1
  have m3 := s3.2.1
  generalize i.getD k false = bx at *
  generalize j.getD k false = bY at *
  have hin := in_Union bx bY
  clear hi hj
  go_enter Try.func42, Try.ntmps42
  go_wp2
  go_quiet ((go_at_call 34; exact quiet_left (hin _)))
  go_wp2
  go_ret
  exact ⟨rfl, bdN (Below.refl _ _) _⟩
set_option maxRecDepth 100000 in
set_option maxHeartbeats 4000000 in
theorem both_Union (A D E H : Option Addr) (c d e0 h0 : Nat) (u : List Str) (i : List Bool) (v : List Str) (j : List Bool) (w : World) (hu : RS w w.heap.size A c u) (hi : RBo w w.heap.size D d i) (hv : RS w w.heap.size E e0 v) (hj : RBo w w.heap.size H h0 j) :
    Calls Try.prog 33 #[.agg #[.slice A u.length c, .slice D i.length d], .agg #[.slice E v.length e0, .slice H j.length h0], .func (.func 34) #[] #[]] w (RetSE w (bothA (fun x y => x || y) u i v j)) := by
  obtain ⟨wa, hwa⟩ : ∃ wa, wa = w.alloc (.cells #[.slice A u.length c, .slice D i.length d] 25) := ⟨_, rfl⟩
  obtain ⟨wb, hwb⟩ : ∃ wb, wb = wa.alloc (.cells #[.slice E v.length e0, .slice H j.length h0] 25) := ⟨_, rfl⟩
  obtain ⟨wf, hwf⟩ : ∃ wf, wf = wb.alloc (.cells #[.func (.func 34) #[] #[]] 58) := ⟨_, rfl⟩
  have z1 : wa.heap.size = w.heap.size + 1 := by rw [hwa]; simp
  have z2 : wb.heap.size = w.heap.size + 2 := by rw [hwb]; simp [z1]
  have z3 : wf.heap.size = w.heap.size + 3 := by rw [hwf]; simp [z2]
  have z4 : (wf.alloc (.cells #[.slice none 0 0, .slice none 0 0] 25)).heap.size = w.heap.size + 4 := by simp [z3]
  have a1 : SC wa w.heap.size (.slice A u.length c) (.slice D i.length d) := by rw [hwa]; exact SC.new _ _ _ _
  have b1 : SC wb (w.heap.size + 1) (.slice E v.length e0) (.slice H j.length h0) := by rw [← z1, hwb]; exact SC.new _ _ _ _
  have f1 : SC1 wf (w.heap.size + 2) (.func (.func 34) #[] #[]) := by rw [← z2, hwf]; exact SC1.new _ _ _
  have r0 := SC.new wf (.slice none 0 0) (.slice none 0 0) 25
  rw [z3] at r0
  have ba : Below w.heap.size w wa := by rw [hwa]; exact bal _ _
  have bb : Below wa.heap.size wa wb := by rw [hwb]; exact bal _ _
  have bf : Below wb.heap.size wb wf := by rw [hwf]; exact bal _ _
  have br := bal wf (.cells #[.slice none 0 0, .slice none 0 0] 25)
  have B4 := bt (bt (bt ba bb) bf) br
  have a4 := ((a1.nx bb).nx bf).nx br
  have b4 := (b1.nx bf).nx br
  have f4 := f1.nx br
  have hsa := fun w' x y => sound_any A D c d u i w' x y
  have hsb := fun w' x y => sound_any E H e0 h0 v j w' x y
  have m1 := a4.1
  have m2 := a4.2.1
  subst hwf
  subst hwb
  subst hwa
  cases ha : sdB (ks u) i with
  | false =>
    have HR := Lib.hid (bothA_no (g := (fun x y => x || y)) (j := j) (v := v) (show (sdB (ks u) i && sdB (ks v) j) = false by rw [ha]; rfl))
    simp only [ha] at hsa
    clear ha hsb
    go_enter Try.func33, Try.ntmps33
    go_wp2_with fail
    refine (hsa _ (st hu B4) (st hi B4)).mono ?_; rintro e w5 ⟨rfl, B5⟩
    have r5 := r0.nx B5
    have k1 := r5.1
    have k2 := r5.2.1
    have k3 := r5.2.2.1
    have k4 := r5.2.2.2.1
    have cp := r5.put (.slice none 0 0) (.slice none 0 0)
    have p1 := cp.1
    have p2 := cp.2.1
    have bp := put_below (b := w.heap.size + 3) (bt B4 B5) (by omega) (.slice none 0 0) (.slice none 0 0)
    go_wp2_with fail
    refine bodyPost_ret (v := .tuple #[.agg #[.slice none 0 0, .slice none 0 0], .int .i64 2]) (by simp [results, p1, p2, go_sem]) rfl ?_
    rw [HR.out]
    exact retSE_nil 2 bp
  | true =>
    simp only [ha] at hsa
    cases hb : sdB (ks v) j with
    | false =>
      have HR := Lib.hid (bothA_no (g := (fun x y => x || y)) (show (sdB (ks u) i && sdB (ks v) j) = false by rw [ha, hb]; rfl))
      simp only [hb] at hsb
      clear ha hb
      go_enter Try.func33, Try.ntmps33
      go_wp2_with fail
      refine (hsa _ (st hu B4) (st hi B4)).mono ?_; rintro e w5 ⟨rfl, B5⟩
      have b5 := b4.nx B5
      have n1 := b5.1
      have n2 := b5.2.1
      have C5 := bt B4 B5
      go_wp2_with fail
      refine (hsb _ (st hv C5) (st hj C5)).mono ?_; rintro e w6 ⟨rfl, B6⟩
      have r6 := (r0.nx B5).nx B6
      have k1 := r6.1
      have k2 := r6.2.1
      have k3 := r6.2.2.1
      have k4 := r6.2.2.2.1
      have cp := r6.put (.slice none 0 0) (.slice none 0 0)
      have p1 := cp.1
      have p2 := cp.2.1
      have bp := put_below (b := w.heap.size + 3) (bt C5 B6) (by omega) (.slice none 0 0) (.slice none 0 0)
      go_wp2_with fail
      refine bodyPost_ret (v := .tuple #[.agg #[.slice none 0 0, .slice none 0 0], .int .i64 2]) (by simp [results, p1, p2, go_sem]) rfl ?_
      rw [HR.out]
      exact retSE_nil 2 bp
    | true =>
      simp only [hb] at hsb
      have la := sdB_len ha
      have lb := sdB_len hb
      rw [ks_length] at la lb
      have hab : (sdB (ks u) i && sdB (ks v) j) = true := by rw [ha, hb]; rfl
      have heq := fun w' x y => equal_any A E c e0 _ _ u v w' rfl rfl x y
      have HIL := Lib.hid la.2.1
      have HJL := Lib.hid lb.2.1
      have hu64 := la.1
      clear ha hb la lb
      by_cases hv0 : ks u = ks v
      · have HR := Lib.hid (bothA_eq (g := (fun x y => x || y)) hab hv0)
        have huv : v.length = u.length := by rw [← ks_length v, ← hv0, ks_length]
        have HUV := Lib.hid huv
        simp only [decide_eq_true hv0] at heq
        clear hv0 huv
        have Z4 := Lib.hid z4
        go_enter Try.func33, Try.ntmps33
        go_wp2_with fail
        refine (hsa _ (st hu B4) (st hi B4)).mono ?_; rintro e w5 ⟨rfl, B5⟩
        have b5 := b4.nx B5
        have n1 := b5.1
        have n2 := b5.2.1
        have C5 := bt B4 B5
        go_wp2_with fail
        refine (hsb _ (st hv C5) (st hj C5)).mono ?_; rintro e w6 ⟨rfl, B6⟩
        have C6 := bt C5 B6
        have a6 := (a4.nx B5).nx B6
        have b6 := b5.nx B6
        have n3 := a6.1
        have n4 := b6.1
        go_wp2_with fail
        refine (heq _ (st hu C6) (st hv C6)).mono ?_; rintro e w7 ⟨rfl, q, rfl⟩
        have C7 := bdN C6 q
        have B7 := bdN (Below.refl w6.heap.size w6) q
        have a7 := a6.nx B7
        have b7 := b6.nx B7
        have f7 := ((f4.nx B5).nx B6).nx B7
        have r7 := ((r0.nx B5).nx B6).nx B7
        have n5 := a7.1
        have u7 := st hu C7
        have i7 := st hi C7
        have j7 := st hj C7
        have hmk := make1_Both A c u (w6.drewN q) (some ⟨w.heap.size + 2, 0, none⟩) (some ⟨w.heap.size, 0, none⟩) (some ⟨w.heap.size + 1, 0, none⟩) (fun k => (fun x y => x || y) (i.getD k false) (j.getD k false)) (by omega) u7 (fun k y w' hk hb => by
          have hku : k < u.length := (List.getElem?_eq_some_iff.1 hk).1
          exact b1_Union (w.heap.size + 2) w.heap.size (w.heap.size + 1) A E D H c e0 d h0 _ _ i j k y w' (by rw [HIL.out]; exact hku) (by rw [HJL.out, HUV.out]; exact hku) (f7.nx hb) (a7.nx hb) (b7.nx hb) (st i7 hb) (st j7 hb))
        clear hsa hsb heq
        go_wp2_with fail
        refine hmk.mono ?_; rintro e w8 ⟨A8, c8, D8, d8, rfl, O8, P8, B8⟩
        have r8 := r7.nx B8
        have k1 := r8.1
        have k2 := r8.2.1
        have k3 := r8.2.2.1
        have k4 := r8.2.2.2.1
        have cp := r8.put (.slice A8 u.length c8) (.slice D8 u.length d8)
        have p1 := cp.1
        have p2 := cp.2.1
        have bp := put_below (b := w.heap.size + 3) (bt C7 B8) (by omega) (.slice A8 u.length c8) (.slice D8 u.length d8)
        go_wp2_with fail
        refine bodyPost_ret (v := .tuple #[.agg #[.slice A8 u.length c8, .slice D8 u.length d8], .int .i64 0]) (by simp [results, p1, p2, go_sem]) rfl ?_
        rw [HR.out]
        have hlt : w.heap.size + 3 < (w6.drewN q).heap.size := r7.2.2.2.2
        exact ⟨A8, c8, D8, d8, by simp [bothI], (O8.put hlt _ _).base_le C7.size, (P8.put hlt _ _).base_le C7.size, bp⟩
      · have HR := Lib.hid (bothA_ne (g := (fun x y => x || y)) hab hv0)
        simp only [decide_eq_false hv0] at heq
        clear hv0
        go_enter Try.func33, Try.ntmps33
        go_wp2_with fail
        refine (hsa _ (st hu B4) (st hi B4)).mono ?_; rintro e w5 ⟨rfl, B5⟩
        have b5 := b4.nx B5
        have n1 := b5.1
        have n2 := b5.2.1
        have C5 := bt B4 B5
        go_wp2_with fail
        refine (hsb _ (st hv C5) (st hj C5)).mono ?_; rintro e w6 ⟨rfl, B6⟩
        have C6 := bt C5 B6
        have a6 := (a4.nx B5).nx B6
        have b6 := b5.nx B6
        have n3 := a6.1
        have n4 := b6.1
        go_wp2_with fail
        refine (heq _ (st hu C6) (st hv C6)).mono ?_; rintro e w7 ⟨rfl, q, rfl⟩
        have r6 := ((r0.nx B5).nx B6).nx (bdN (Below.refl w6.heap.size w6) q)
        have k1 := r6.1
        have k2 := r6.2.1
        have k3 := r6.2.2.1
        have k4 := r6.2.2.2.1
        have cp := r6.put (.slice none 0 0) (.slice none 0 0)
        have p1 := cp.1
        have p2 := cp.2.1
        have bp := put_below (b := w.heap.size + 3) (bdN C6 q) (by omega) (.slice none 0 0) (.slice none 0 0)
        go_wp2_with fail
        refine bodyPost_ret (v := .tuple #[.agg #[.slice none 0 0, .slice none 0 0], .int .i64 10]) (by simp [results, p1, p2, go_sem]) rfl ?_
        rw [HR.out]
        exact retSE_nil 10 bp

theorem in_Complement (x y : Bool) (w : World) : Calls Try.prog 35 #[.bool x, .bool y] w fun e w' => e = .returned (.bool ((fun x _ => !x) x y)) ∧ w = w' := by
  cases x <;> cases y <;>
  · go_enter Try.func35, Try.ntmps35
    go_wp2
    go_ret
    exact ⟨rfl, rfl⟩
set_option maxHeartbeats 1000000 in
theorem b1_Complement (q1 q2 q3 : Nat) (A E D H : Option Addr) (c e0 d h0 n m : Nat) (i j : List Bool) (k : Nat) (y : Str) (w : World) (hk : k < i.length) (hkj : k < j.length)
    (hp1 : SC1 w q1 (.func (.func 35) #[] #[])) (s2 : SC w q2 (.slice A n c) (.slice D i.length d)) (s3 : SC w q3 (.slice E m e0) (.slice H j.length h0))
    (hi : RBo w w.heap.size D d i) (hj : RBo w w.heap.size H h0 j) :
    Calls Try.prog 42 #[.int .i64 (k : Int), .string y, .pointer (some ⟨q1, 0, none⟩), .pointer (some ⟨q2, 0, none⟩), .pointer (some ⟨q3, 0, none⟩)] w fun e w' => e = .returned (.bool ((fun x _ => !x) (i.getD k false) (j.getD k false))) ∧ Below w.heap.size w w' := by
  have hbi : i.length ≤ 140737488351232 := hi.big
  have hbj : j.length ≤ 140737488351232 := hj.big
  obtain ⟨b1, o1, rfl, hx⟩ := bool_at hi hk
  obtain ⟨b2, o2, rfl, hy⟩ := bool_at hj hkj
  have m1 := hp1.1
  have m2 := s2.2.1
  have m3 := s3.2.1
  generalize i.getD k false = bx at *
  generalize j.getD k false = bY at *
  have hin := in_Complement bx bY
  clear hi hj
  go_enter Try.func42, Try.ntmps42
  go_wp2
  go_quiet ((go_at_call 35; exact quiet_left (hin _)))
  go_wp2
  go_ret
  exact ⟨rfl, bdN (Below.refl _ _) _⟩
set_option maxRecDepth 100000 in
set_option maxHeartbeats 4000000 in
theorem both_Complement (A D E H : Option Addr) (c d e0 h0 : Nat) (u : List Str) (i : List Bool) (v : List Str) (j : List Bool) (w : World) (hu : RS w w.heap.size A c u) (hi : RBo w w.heap.size D d i) (hv : RS w w.heap.size E e0 v) (hj : RBo w w.heap.size H h0 j) :
    Calls Try.prog 33 #[.agg #[.slice A u.length c, .slice D i.length d], .agg #[.slice E v.length e0, .slice H j.length h0], .func (.func 35) #[] #[]] w (RetSE w (bothA (fun x _ => !x) u i v j)) := by
  obtain ⟨wa, hwa⟩ : ∃ wa, wa = w.alloc (.cells #[.slice A u.length c, .slice D i.length d] 25) := ⟨_, rfl⟩
  obtain ⟨wb, hwb⟩ : ∃ wb, wb = wa.alloc (.cells #[.slice E v.length e0, .slice H j.length h0] 25) := ⟨_, rfl⟩
  obtain ⟨wf, hwf⟩ : ∃ wf, wf = wb.alloc (.cells #[.func (.func 35) #[] #[]] 58) := ⟨_, rfl⟩
  have z1 : wa.heap.size = w.heap.size + 1 := by rw [hwa]; simp
  have z2 : wb.heap.size = w.heap.size + 2 := by rw [hwb]; simp [z1]
  have z3 : wf.heap.size = w.heap.size + 3 := by rw [hwf]; simp [z2]
  have z4 : (wf.alloc (.cells #[.slice none 0 0, .slice none 0 0] 25)).heap.size = w.heap.size + 4 := by simp [z3]
  have a1 : SC wa w.heap.size (.slice A u.length c) (.slice D i.length d) := by rw [hwa]; exact SC.new _ _ _ _
  have b1 : SC wb (w.heap.size + 1) (.slice E v.length e0) (.slice H j.length h0) := by rw [← z1, hwb]; exact SC.new _ _ _ _
  have f1 : SC1 wf (w.heap.size + 2) (.func (.func 35) #[] #[]) := by rw [← z2, hwf]; exact SC1.new _ _ _
  have r0 := SC.new wf (.slice none 0 0) (.slice none 0 0) 25
  rw [z3] at r0
  have ba : Below w.heap.size w wa := by rw [hwa]; exact bal _ _
  have bb : Below wa.heap.size wa wb := by rw [hwb]; exact bal _ _
  have bf : Below wb.heap.size wb wf := by rw [hwf]; exact bal _ _
  have br := bal wf (.cells #[.slice none 0 0, .slice none 0 0] 25)
  have B4 := bt (bt (bt ba bb) bf) br
  have a4 := ((a1.nx bb).nx bf).nx br
  have b4 := (b1.nx bf).nx br
  have f4 := f1.nx br
  have hsa := fun w' x y => sound_any A D c d u i w' x y
  have hsb := fun w' x y => sound_any E H e0 h0 v j w' x y
  have m1 := a4.1
  have m2 := a4.2.1
  subst hwf
  subst hwb
  subst hwa
  cases ha : sdB (ks u) i with
  | false =>
    have HR := Lib.hid (bothA_no (g := (fun x _ => !x)) (j := j) (v := v) (show (sdB (ks u) i && sdB (ks v) j) = false by rw [ha]; rfl))
    simp only [ha] at hsa
    clear ha hsb
    go_enter Try.func33, Try.ntmps33
    go_wp2_with fail
    refine (hsa _ (st hu B4) (st hi B4)).mono ?_; rintro e w5 ⟨rfl, B5⟩
    have r5 := r0.nx B5
    have k1 := r5.1
    have k2 := r5.2.1
    have k3 := r5.2.2.1
    have k4 := r5.2.2.2.1
    have cp := r5.put (.slice none 0 0) (.slice none 0 0)
    have p1 := cp.1
    have p2 := cp.2.1
    have bp := put_below (b := w.heap.size + 3) (bt B4 B5) (by omega) (.slice none 0 0) (.slice none 0 0)
    go_wp2_with fail
    refine bodyPost_ret (v := .tuple #[.agg #[.slice none 0 0, .slice none 0 0], .int .i64 2]) (by simp [results, p1, p2, go_sem]) rfl ?_
    rw [HR.out]
    exact retSE_nil 2 bp
  | true =>
    simp only [ha] at hsa
    cases hb : sdB (ks v) j with
    | false =>
      have HR := Lib.hid (bothA_no (g := (fun x _ => !x)) (show (sdB (ks u) i && sdB (ks v) j) = false by rw [ha, hb]; rfl))
      simp only [hb] at hsb
      clear ha hb
      go_enter Try.func33, Try.ntmps33
      go_wp2_with fail
      refine (hsa _ (st hu B4) (st hi B4)).mono ?_; rintro e w5 ⟨rfl, B5⟩
      have b5 := b4.nx B5
      have n1 := b5.1
      have n2 := b5.2.1
      have C5 := bt B4 B5
      go_wp2_with fail
      refine (hsb _ (st hv C5) (st hj C5)).mono ?_; rintro e w6 ⟨rfl, B6⟩
      have r6 := (r0.nx B5).nx B6
      have k1 := r6.1
      have k2 := r6.2.1
      have k3 := r6.2.2.1
      have k4 := r6.2.2.2.1
      have cp := r6.put (.slice none 0 0) (.slice none 0 0)
      have p1 := cp.1
      have p2 := cp.2.1
      have bp := put_below (b := w.heap.size + 3) (bt C5 B6) (by omega) (.slice none 0 0) (.slice none 0 0)
      go_wp2_with fail
      refine bodyPost_ret (v := .tuple #[.agg #[.slice none 0 0, .slice none 0 0], .int .i64 2]) (by simp [results, p1, p2, go_sem]) rfl ?_
      rw [HR.out]
      exact retSE_nil 2 bp
    | true =>
      simp only [hb] at hsb
      have la := sdB_len ha
      have lb := sdB_len hb
      rw [ks_length] at la lb
      have hab : (sdB (ks u) i && sdB (ks v) j) = true := by rw [ha, hb]; rfl
      have heq := fun w' x y => equal_any A E c e0 _ _ u v w' rfl rfl x y
      have HIL := Lib.hid la.2.1
      have HJL := Lib.hid lb.2.1
      have hu64 := la.1
      clear ha hb la lb
      by_cases hv0 : ks u = ks v
      · have HR := Lib.hid (bothA_eq (g := (fun x _ => !x)) hab hv0)
        have huv : v.length = u.length := by rw [← ks_length v, ← hv0, ks_length]
        have HUV := Lib.hid huv
        simp only [decide_eq_true hv0] at heq
        clear hv0 huv
        have Z4 := Lib.hid z4
        go_enter Try.func33, Try.ntmps33
        go_wp2_with fail
        refine (hsa _ (st hu B4) (st hi B4)).mono ?_; rintro e w5 ⟨rfl, B5⟩
        have b5 := b4.nx B5
        have n1 := b5.1
        have n2 := b5.2.1
        have C5 := bt B4 B5
        go_wp2_with fail
        refine (hsb _ (st hv C5) (st hj C5)).mono ?_; rintro e w6 ⟨rfl, B6⟩
        have C6 := bt C5 B6
        have a6 := (a4.nx B5).nx B6
        have b6 := b5.nx B6
        have n3 := a6.1
        have n4 := b6.1
        go_wp2_with fail
        refine (heq _ (st hu C6) (st hv C6)).mono ?_; rintro e w7 ⟨rfl, q, rfl⟩
        have C7 := bdN C6 q
        have B7 := bdN (Below.refl w6.heap.size w6) q
        have a7 := a6.nx B7
        have b7 := b6.nx B7
        have f7 := ((f4.nx B5).nx B6).nx B7
        have r7 := ((r0.nx B5).nx B6).nx B7
        have n5 := a7.1
        have u7 := st hu C7
        have i7 := st hi C7
        have j7 := st hj C7
        have hmk := make1_Both A c u (w6.drewN q) (some ⟨w.heap.size + 2, 0, none⟩) (some ⟨w.heap.size, 0, none⟩) (some ⟨w.heap.size + 1, 0, none⟩) (fun k => (fun x _ => !x) (i.getD k false) (j.getD k false)) (by omega) u7 (fun k y w' hk hb => by
          have hku : k < u.length := (List.getElem?_eq_some_iff.1 hk).1
          exact b1_Complement (w.heap.size + 2) w.heap.size (w.heap.size + 1) A E D H c e0 d h0 _ _ i j k y w' (by rw [HIL.out]; exact hku) (by rw [HJL.out, HUV.out]; exact hku) (f7.nx hb) (a7.nx hb) (b7.nx hb) (st i7 hb) (st j7 hb))
        clear hsa hsb heq
        go_wp2_with fail
        refine hmk.mono ?_; rintro e w8 ⟨A8, c8, D8, d8, rfl, O8, P8, B8⟩
        have r8 := r7.nx B8
        have k1 := r8.1
        have k2 := r8.2.1
        have k3 := r8.2.2.1
        have k4 := r8.2.2.2.1
        have cp := r8.put (.slice A8 u.length c8) (.slice D8 u.length d8)
        have p1 := cp.1
        have p2 := cp.2.1
        have bp := put_below (b := w.heap.size + 3) (bt C7 B8) (by omega) (.slice A8 u.length c8) (.slice D8 u.length d8)
        go_wp2_with fail
        refine bodyPost_ret (v := .tuple #[.agg #[.slice A8 u.length c8, .slice D8 u.length d8], .int .i64 0]) (by simp [results, p1, p2, go_sem]) rfl ?_
        rw [HR.out]
        have hlt : w.heap.size + 3 < (w6.drewN q).heap.size := r7.2.2.2.2
        exact ⟨A8, c8, D8, d8, by simp [bothI], (O8.put hlt _ _).base_le C7.size, (P8.put hlt _ _).base_le C7.size, bp⟩
      · have HR := Lib.hid (bothA_ne (g := (fun x _ => !x)) hab hv0)
        simp only [decide_eq_false hv0] at heq
        clear hv0
        go_enter Try.func33, Try.ntmps33
        go_wp2_with fail
        refine (hsa _ (st hu B4) (st hi B4)).mono ?_; rintro e w5 ⟨rfl, B5⟩
        have b5 := b4.nx B5
        have n1 := b5.1
        have n2 := b5.2.1
        have C5 := bt B4 B5
        go_wp2_with fail
        refine (hsb _ (st hv C5) (st hj C5)).mono ?_; rintro e w6 ⟨rfl, B6⟩
        have C6 := bt C5 B6
        have a6 := (a4.nx B5).nx B6
        have b6 := b5.nx B6
        have n3 := a6.1
        have n4 := b6.1
        go_wp2_with fail
        refine (heq _ (st hu C6) (st hv C6)).mono ?_; rintro e w7 ⟨rfl, q, rfl⟩
        have r6 := ((r0.nx B5).nx B6).nx (bdN (Below.refl w6.heap.size w6) q)
        have k1 := r6.1
        have k2 := r6.2.1
        have k3 := r6.2.2.1
        have k4 := r6.2.2.2.1
        have cp := r6.put (.slice none 0 0) (.slice none 0 0)
        have p1 := cp.1
        have p2 := cp.2.1
        have bp := put_below (b := w.heap.size + 3) (bdN C6 q) (by omega) (.slice none 0 0) (.slice none 0 0)
        go_wp2_with fail
        refine bodyPost_ret (v := .tuple #[.agg #[.slice none 0 0, .slice none 0 0], .int .i64 10]) (by simp [results, p1, p2, go_sem]) rfl ?_
        rw [HR.out]
        exact retSE_nil 10 bp

theorem in_Meet (x y : Bool) (w : World) : Calls Try.prog 36 #[.bool x, .bool y] w fun e w' => e = .returned (.bool ((fun x y => x && y) x y)) ∧ w = w' := by
  cases x <;> cases y <;>
  · go_enter Try.func36, Try.ntmps36
    go_wp2
    go_ret
    exact ⟨rfl, rfl⟩
set_option maxHeartbeats 1000000 in
theorem b1_Meet (q1 q2 q3 : Nat) (A E D H : Option Addr) (c e0 d h0 n m : Nat) (i j : List Bool) (k : Nat) (y : Str) (w : World) (hk : k < i.length) (hkj : k < j.length)
    (hp1 : SC1 w q1 (.func (.func 36) #[] #[])) (s2 : SC w q2 (.slice A n c) (.slice D i.length d)) (s3 : SC w q3 (.slice E m e0) (.slice H j.length h0))
    (hi : RBo w w.heap.size D d i) (hj : RBo w w.heap.size H h0 j) :
    Calls Try.prog 42 #[.int .i64 (k : Int), .string y, .pointer (some ⟨q1, 0, none⟩), .pointer (some ⟨q2, 0, none⟩), .pointer (some ⟨q3, 0, none⟩)] w fun e w' => e = .returned (.bool ((fun x y => x && y) (i.getD k false) (j.getD k false))) ∧ Below w.heap.size w w' := by
  have hbi : i.length ≤ 140737488351232 := hi.big
  have hbj : j.length ≤ 140737488351232 := hj.big
  obtain ⟨b1, o1, rfl, hx⟩ := bool_at hi hk
  obtain ⟨b2, o2, rfl, hy⟩ := bool_at hj hkj
  have m1 := hp1.1
  have m2 := s2.2.1
  have m3 := s3.2.1
  generalize i.getD k false = bx at *
  generalize j.getD k false = bY at *
  have hin := in_Meet bx bY
  clear hi hj
  go_enter Try.func42, Try.ntmps42
  go_wp2
  go_quiet ((go_at_call 36; exact quiet_left (hin _)))
  go_wp2
  go_ret
  exact ⟨rfl, bdN (Below.refl _ _) _⟩
set_option maxRecDepth 100000 in
set_option maxHeartbeats 4000000 in
theorem both_Meet (A D E H : Option Addr) (c d e0 h0 : Nat) (u : List Str) (i : List Bool) (v : List Str) (j : List Bool) (w : World) (hu : RS w w.heap.size A c u) (hi : RBo w w.heap.size D d i) (hv : RS w w.heap.size E e0 v) (hj : RBo w w.heap.size H h0 j) :
    Calls Try.prog 33 #[.agg #[.slice A u.length c, .slice D i.length d], .agg #[.slice E v.length e0, .slice H j.length h0], .func (.func 36) #[] #[]] w (RetSE w (bothA (fun x y => x && y) u i v j)) := by
  obtain ⟨wa, hwa⟩ : ∃ wa, wa = w.alloc (.cells #[.slice A u.length c, .slice D i.length d] 25) := ⟨_, rfl⟩
  obtain ⟨wb, hwb⟩ : ∃ wb, wb = wa.alloc (.cells #[.slice E v.length e0, .slice H j.length h0] 25) := ⟨_, rfl⟩
  obtain ⟨wf, hwf⟩ : ∃ wf, wf = wb.alloc (.cells #[.func (.func 36) #[] #[]] 58) := ⟨_, rfl⟩
  have z1 : wa.heap.size = w.heap.size + 1 := by rw [hwa]; simp
  have z2 : wb.heap.size = w.heap.size + 2 := by rw [hwb]; simp [z1]
  have z3 : wf.heap.size = w.heap.size + 3 := by rw [hwf]; simp [z2]
  have z4 : (wf.alloc (.cells #[.slice none 0 0, .slice none 0 0] 25)).heap.size = w.heap.size + 4 := by simp [z3]
  have a1 : SC wa w.heap.size (.slice A u.length c) (.slice D i.length d) := by rw [hwa]; exact SC.new _ _ _ _
  have b1 : SC wb (w.heap.size + 1) (.slice E v.length e0) (.slice H j.length h0) := by rw [← z1, hwb]; exact SC.new _ _ _ _
  have f1 : SC1 wf (w.heap.size + 2) (.func (.func 36) #[] #[]) := by rw [← z2, hwf]; exact SC1.new _ _ _
  have r0 := SC.new wf (.slice none 0 0) (.slice none 0 0) 25
  rw [z3] at r0
  have ba : Below w.heap.size w wa := by rw [hwa]; exact bal _ _
  have bb : Below wa.heap.size wa wb := by rw [hwb]; exact bal _ _
  have bf : Below wb.heap.size wb wf := by rw [hwf]; exact bal _ _
  have br := bal wf (.cells #[.slice none 0 0, .slice none 0 0] 25)
  have B4 := bt (bt (bt ba bb) bf) br
  have a4 := ((a1.nx bb).nx bf).nx br
  have b4 := (b1.nx bf).nx br
  have f4 := f1.nx br
  have hsa := fun w' x y => sound_any A D c d u i w' x y
  have hsb := fun w' x y => sound_any E H e0 h0 v j w' x y
  have m1 := a4.1
  have m2 := a4.2.1
  subst hwf
  subst hwb
  subst hwa
  cases ha : sdB (ks u) i with
  | false =>
    have HR := Lib.hid (bothA_no (g := (fun x y => x && y)) (j := j) (v := v) (show (sdB (ks u) i && sdB (ks v) j) = false by rw [ha]; rfl))
    simp only [ha] at hsa
    clear ha hsb
    go_enter Try.func33, Try.ntmps33
    go_wp2_with fail
    refine (hsa _ (st hu B4) (st hi B4)).mono ?_; rintro e w5 ⟨rfl, B5⟩
    have r5 := r0.nx B5
    have k1 := r5.1
    have k2 := r5.2.1
    have k3 := r5.2.2.1
    have k4 := r5.2.2.2.1
    have cp := r5.put (.slice none 0 0) (.slice none 0 0)
    have p1 := cp.1
    have p2 := cp.2.1
    have bp := put_below (b := w.heap.size + 3) (bt B4 B5) (by omega) (.slice none 0 0) (.slice none 0 0)
    go_wp2_with fail
    refine bodyPost_ret (v := .tuple #[.agg #[.slice none 0 0, .slice none 0 0], .int .i64 2]) (by simp [results, p1, p2, go_sem]) rfl ?_
    rw [HR.out]
    exact retSE_nil 2 bp
  | true =>
    simp only [ha] at hsa
    cases hb : sdB (ks v) j with
    | false =>
      have HR := Lib.hid (bothA_no (g := (fun x y => x && y)) (show (sdB (ks u) i && sdB (ks v) j) = false by rw [ha, hb]; rfl))
      simp only [hb] at hsb
      clear ha hb
      go_enter Try.func33, Try.ntmps33
      go_wp2_with fail
      refine (hsa _ (st hu B4) (st hi B4)).mono ?_; rintro e w5 ⟨rfl, B5⟩
      have b5 := b4.nx B5
      have n1 := b5.1
      have n2 := b5.2.1
      have C5 := bt B4 B5
      go_wp2_with fail
      refine (hsb _ (st hv C5) (st hj C5)).mono ?_; rintro e w6 ⟨rfl, B6⟩
      have r6 := (r0.nx B5).nx B6
      have k1 := r6.1
      have k2 := r6.2.1
      have k3 := r6.2.2.1
      have k4 := r6.2.2.2.1
      have cp := r6.put (.slice none 0 0) (.slice none 0 0)
      have p1 := cp.1
      have p2 := cp.2.1
      have bp := put_below (b := w.heap.size + 3) (bt C5 B6) (by omega) (.slice none 0 0) (.slice none 0 0)
      go_wp2_with fail
      refine bodyPost_ret (v := .tuple #[.agg #[.slice none 0 0, .slice none 0 0], .int .i64 2]) (by simp [results, p1, p2, go_sem]) rfl ?_
      rw [HR.out]
      exact retSE_nil 2 bp
    | true =>
      simp only [hb] at hsb
      have la := sdB_len ha
      have lb := sdB_len hb
      rw [ks_length] at la lb
      have hab : (sdB (ks u) i && sdB (ks v) j) = true := by rw [ha, hb]; rfl
      have heq := fun w' x y => equal_any A E c e0 _ _ u v w' rfl rfl x y
      have HIL := Lib.hid la.2.1
      have HJL := Lib.hid lb.2.1
      have hu64 := la.1
      clear ha hb la lb
      by_cases hv0 : ks u = ks v
      · have HR := Lib.hid (bothA_eq (g := (fun x y => x && y)) hab hv0)
        have huv : v.length = u.length := by rw [← ks_length v, ← hv0, ks_length]
        have HUV := Lib.hid huv
        simp only [decide_eq_true hv0] at heq
        clear hv0 huv
        have Z4 := Lib.hid z4
        go_enter Try.func33, Try.ntmps33
        go_wp2_with fail
        refine (hsa _ (st hu B4) (st hi B4)).mono ?_; rintro e w5 ⟨rfl, B5⟩
        have b5 := b4.nx B5
        have n1 := b5.1
        have n2 := b5.2.1
        have C5 := bt B4 B5
        go_wp2_with fail
        refine (hsb _ (st hv C5) (st hj C5)).mono ?_; rintro e w6 ⟨rfl, B6⟩
        have C6 := bt C5 B6
        have a6 := (a4.nx B5).nx B6
        have b6 := b5.nx B6
        have n3 := a6.1
        have n4 := b6.1
        go_wp2_with fail
        refine (heq _ (st hu C6) (st hv C6)).mono ?_; rintro e w7 ⟨rfl, q, rfl⟩
        have C7 := bdN C6 q
        have B7 := bdN (Below.refl w6.heap.size w6) q
        have a7 := a6.nx B7
        have b7 := b6.nx B7
        have f7 := ((f4.nx B5).nx B6).nx B7
        have r7 := ((r0.nx B5).nx B6).nx B7
        have n5 := a7.1
        have u7 := st hu C7
        have i7 := st hi C7
        have j7 := st hj C7
        have hmk := make1_Both A c u (w6.drewN q) (some ⟨w.heap.size + 2, 0, none⟩) (some ⟨w.heap.size, 0, none⟩) (some ⟨w.heap.size + 1, 0, none⟩) (fun k => (fun x y => x && y) (i.getD k false) (j.getD k false)) (by omega) u7 (fun k y w' hk hb => by
          have hku : k < u.length := (List.getElem?_eq_some_iff.1 hk).1
          exact b1_Meet (w.heap.size + 2) w.heap.size (w.heap.size + 1) A E D H c e0 d h0 _ _ i j k y w' (by rw [HIL.out]; exact hku) (by rw [HJL.out, HUV.out]; exact hku) (f7.nx hb) (a7.nx hb) (b7.nx hb) (st i7 hb) (st j7 hb))
        clear hsa hsb heq
        go_wp2_with fail
        refine hmk.mono ?_; rintro e w8 ⟨A8, c8, D8, d8, rfl, O8, P8, B8⟩
        have r8 := r7.nx B8
        have k1 := r8.1
        have k2 := r8.2.1
        have k3 := r8.2.2.1
        have k4 := r8.2.2.2.1
        have cp := r8.put (.slice A8 u.length c8) (.slice D8 u.length d8)
        have p1 := cp.1
        have p2 := cp.2.1
        have bp := put_below (b := w.heap.size + 3) (bt C7 B8) (by omega) (.slice A8 u.length c8) (.slice D8 u.length d8)
        go_wp2_with fail
        refine bodyPost_ret (v := .tuple #[.agg #[.slice A8 u.length c8, .slice D8 u.length d8], .int .i64 0]) (by simp [results, p1, p2, go_sem]) rfl ?_
        rw [HR.out]
        have hlt : w.heap.size + 3 < (w6.drewN q).heap.size := r7.2.2.2.2
        exact ⟨A8, c8, D8, d8, by simp [bothI], (O8.put hlt _ _).base_le C7.size, (P8.put hlt _ _).base_le C7.size, bp⟩
      · have HR := Lib.hid (bothA_ne (g := (fun x y => x && y)) hab hv0)
        simp only [decide_eq_false hv0] at heq
        clear hv0
        go_enter Try.func33, Try.ntmps33
        go_wp2_with fail
        refine (hsa _ (st hu B4) (st hi B4)).mono ?_; rintro e w5 ⟨rfl, B5⟩
        have b5 := b4.nx B5
        have n1 := b5.1
        have n2 := b5.2.1
        have C5 := bt B4 B5
        go_wp2_with fail
        refine (hsb _ (st hv C5) (st hj C5)).mono ?_; rintro e w6 ⟨rfl, B6⟩
        have C6 := bt C5 B6
        have a6 := (a4.nx B5).nx B6
        have b6 := b5.nx B6
        have n3 := a6.1
        have n4 := b6.1
        go_wp2_with fail
        refine (heq _ (st hu C6) (st hv C6)).mono ?_; rintro e w7 ⟨rfl, q, rfl⟩
        have r6 := ((r0.nx B5).nx B6).nx (bdN (Below.refl w6.heap.size w6) q)
        have k1 := r6.1
        have k2 := r6.2.1
        have k3 := r6.2.2.1
        have k4 := r6.2.2.2.1
        have cp := r6.put (.slice none 0 0) (.slice none 0 0)
        have p1 := cp.1
        have p2 := cp.2.1
        have bp := put_below (b := w.heap.size + 3) (bdN C6 q) (by omega) (.slice none 0 0) (.slice none 0 0)
        go_wp2_with fail
        refine bodyPost_ret (v := .tuple #[.agg #[.slice none 0 0, .slice none 0 0], .int .i64 10]) (by simp [results, p1, p2, go_sem]) rfl ?_
        rw [HR.out]
        exact retSE_nil 10 bp

theorem in_Minus (x y : Bool) (w : World) : Calls Try.prog 37 #[.bool x, .bool y] w fun e w' => e = .returned (.bool ((fun x y => x && !y) x y)) ∧ w = w' := by
  cases x <;> cases y <;>
  · go_enter Try.func37, Try.ntmps37
    go_wp2
    go_ret
    exact ⟨rfl, rfl⟩
set_option maxHeartbeats 1000000 in
theorem b1_Minus (q1 q2 q3 : Nat) (A E D H : Option Addr) (c e0 d h0 n m : Nat) (i j : List Bool) (k : Nat) (y : Str) (w : World) (hk : k < i.length) (hkj : k < j.length)
    (hp1 : SC1 w q1 (.func (.func 37) #[] #[])) (s2 : SC w q2 (.slice A n c) (.slice D i.length d)) (s3 : SC w q3 (.slice E m e0) (.slice H j.length h0))
    (hi : RBo w w.heap.size D d i) (hj : RBo w w.heap.size H h0 j) :
    Calls Try.prog 42 #[.int .i64 (k : Int), .string y, .pointer (some ⟨q1, 0, none⟩), .pointer (some ⟨q2, 0, none⟩), .pointer (some ⟨q3, 0, none⟩)] w fun e w' => e = .returned (.bool ((fun x y => x && !y) (i.getD k false) (j.getD k false))) ∧ Below w.heap.size w w' := by
  have hbi : i.length ≤ 140737488351232 := hi.big
  have hbj : j.length ≤ 140737488351232 := hj.big
  obtain ⟨b1, o1, rfl, hx⟩ := bool_at hi hk
  obtain ⟨b2, o2, rfl, hy⟩ := bool_at hj hkj
  have m1 := hp1.1
  have m2 := s2.2.1
  have m3 := s3.2.1
  generalize i.getD k false = bx at *
  generalize j.getD k false = bY at *
  have hin := in_Minus bx bY
  clear hi hj
  go_enter Try.func42, Try.ntmps42
  go_wp2
  go_quiet ((go_at_call 37; exact quiet_left (hin _)))
  go_wp2
  go_ret
  exact ⟨rfl, bdN (Below.refl _ _) _⟩
set_option maxRecDepth 100000 in
set_option maxHeartbeats 4000000 in
theorem both_Minus (A D E H : Option Addr) (c d e0 h0 : Nat) (u : List Str) (i : List Bool) (v : List Str) (j : List Bool) (w : World) (hu : RS w w.heap.size A c u) (hi : RBo w w.heap.size D d i) (hv : RS w w.heap.size E e0 v) (hj : RBo w w.heap.size H h0 j) :
    Calls Try.prog 33 #[.agg #[.slice A u.length c, .slice D i.length d], .agg #[.slice E v.length e0, .slice H j.length h0], .func (.func 37) #[] #[]] w (RetSE w (bothA (fun x y => x && !y) u i v j)) := by
  obtain ⟨wa, hwa⟩ : ∃ wa, wa = w.alloc (.cells #[.slice A u.length c, .slice D i.length d] 25) := ⟨_, rfl⟩
  obtain ⟨wb, hwb⟩ : ∃ wb, wb = wa.alloc (.cells #[.slice E v.length e0, .slice H j.length h0] 25) := ⟨_, rfl⟩
  obtain ⟨wf, hwf⟩ : ∃ wf, wf = wb.alloc (.cells #[.func (.func 37) #[] #[]] 58) := ⟨_, rfl⟩
  have z1 : wa.heap.size = w.heap.size + 1 := by rw [hwa]; simp
  have z2 : wb.heap.size = w.heap.size + 2 := by rw [hwb]; simp [z1]
  have z3 : wf.heap.size = w.heap.size + 3 := by rw [hwf]; simp [z2]
  have z4 : (wf.alloc (.cells #[.slice none 0 0, .slice none 0 0] 25)).heap.size = w.heap.size + 4 := by simp [z3]
  have a1 : SC wa w.heap.size (.slice A u.length c) (.slice D i.length d) := by rw [hwa]; exact SC.new _ _ _ _
  have b1 : SC wb (w.heap.size + 1) (.slice E v.length e0) (.slice H j.length h0) := by rw [← z1, hwb]; exact SC.new _ _ _ _
  have f1 : SC1 wf (w.heap.size + 2) (.func (.func 37) #[] #[]) := by rw [← z2, hwf]; exact SC1.new _ _ _
  have r0 := SC.new wf (.slice none 0 0) (.slice none 0 0) 25
  rw [z3] at r0
  have ba : Below w.heap.size w wa := by rw [hwa]; exact bal _ _
  have bb : Below wa.heap.size wa wb := by rw [hwb]; exact bal _ _
  have bf : Below wb.heap.size wb wf := by rw [hwf]; exact bal _ _
  have br := bal wf (.cells #[.slice none 0 0, .slice none 0 0] 25)
  have B4 := bt (bt (bt ba bb) bf) br
  have a4 := ((a1.nx bb).nx bf).nx br
  have b4 := (b1.nx bf).nx br
  have f4 := f1.nx br
  have hsa := fun w' x y => sound_any A D c d u i w' x y
  have hsb := fun w' x y => sound_any E H e0 h0 v j w' x y
  have m1 := a4.1
  have m2 := a4.2.1
  subst hwf
  subst hwb
  subst hwa
  cases ha : sdB (ks u) i with
  | false =>
    have HR := Lib.hid (bothA_no (g := (fun x y => x && !y)) (j := j) (v := v) (show (sdB (ks u) i && sdB (ks v) j) = false by rw [ha]; rfl))
    simp only [ha] at hsa
    clear ha hsb
    go_enter Try.func33, Try.ntmps33
    go_wp2_with fail
    refine (hsa _ (st hu B4) (st hi B4)).mono ?_; rintro e w5 ⟨rfl, B5⟩
    have r5 := r0.nx B5
    have k1 := r5.1
    have k2 := r5.2.1
    have k3 := r5.2.2.1
    have k4 := r5.2.2.2.1
    have cp := r5.put (.slice none 0 0) (.slice none 0 0)
    have p1 := cp.1
    have p2 := cp.2.1
    have bp := put_below (b := w.heap.size + 3) (bt B4 B5) (by omega) (.slice none 0 0) (.slice none 0 0)
    go_wp2_with fail
    refine bodyPost_ret (v := .tuple #[.agg #[.slice none 0 0, .slice none 0 0], .int .i64 2]) (by simp [results, p1, p2, go_sem]) rfl ?_
    rw [HR.out]
    exact retSE_nil 2 bp
  | true =>
    simp only [ha] at hsa
    cases hb : sdB (ks v) j with
    | false =>
      have HR := Lib.hid (bothA_no (g := (fun x y => x && !y)) (show (sdB (ks u) i && sdB (ks v) j) = false by rw [ha, hb]; rfl))
      simp only [hb] at hsb
      clear ha hb
      go_enter Try.func33, Try.ntmps33
      go_wp2_with fail
      refine (hsa _ (st hu B4) (st hi B4)).mono ?_; rintro e w5 ⟨rfl, B5⟩
      have b5 := b4.nx B5
      have n1 := b5.1
      have n2 := b5.2.1
      have C5 := bt B4 B5
      go_wp2_with fail
      refine (hsb _ (st hv C5) (st hj C5)).mono ?_; rintro e w6 ⟨rfl, B6⟩
      have r6 := (r0.nx B5).nx B6
      have k1 := r6.1
      have k2 := r6.2.1
      have k3 := r6.2.2.1
      have k4 := r6.2.2.2.1
      have cp := r6.put (.slice none 0 0) (.slice none 0 0)
      have p1 := cp.1
      have p2 := cp.2.1
      have bp := put_below (b := w.heap.size + 3) (bt C5 B6) (by omega) (.slice none 0 0) (.slice none 0 0)
      go_wp2_with fail
      refine bodyPost_ret (v := .tuple #[.agg #[.slice none 0 0, .slice none 0 0], .int .i64 2]) (by simp [results, p1, p2, go_sem]) rfl ?_
      rw [HR.out]
      exact retSE_nil 2 bp
    | true =>
      simp only [hb] at hsb
      have la := sdB_len ha
      have lb := sdB_len hb
      rw [ks_length] at la lb
      have hab : (sdB (ks u) i && sdB (ks v) j) = true := by rw [ha, hb]; rfl
      have heq := fun w' x y => equal_any A E c e0 _ _ u v w' rfl rfl x y
      have HIL := Lib.hid la.2.1
      have HJL := Lib.hid lb.2.1
      have hu64 := la.1
      clear ha hb la lb
      by_cases hv0 : ks u = ks v
      · have HR := Lib.hid (bothA_eq (g := (fun x y => x && !y)) hab hv0)
        have huv : v.length = u.length := by rw [← ks_length v, ← hv0, ks_length]
        have HUV := Lib.hid huv
        simp only [decide_eq_true hv0] at heq
        clear hv0 huv
        have Z4 := Lib.hid z4
        go_enter Try.func33, Try.ntmps33
        go_wp2_with fail
        refine (hsa _ (st hu B4) (st hi B4)).mono ?_; rintro e w5 ⟨rfl, B5⟩
        have b5 := b4.nx B5
        have n1 := b5.1
        have n2 := b5.2.1
        have C5 := bt B4 B5
        go_wp2_with fail
        refine (hsb _ (st hv C5) (st hj C5)).mono ?_; rintro e w6 ⟨rfl, B6⟩
        have C6 := bt C5 B6
        have a6 := (a4.nx B5).nx B6
        have b6 := b5.nx B6
        have n3 := a6.1
        have n4 := b6.1
        go_wp2_with fail
        refine (heq _ (st hu C6) (st hv C6)).mono ?_; rintro e w7 ⟨rfl, q, rfl⟩
        have C7 := bdN C6 q
        have B7 := bdN (Below.refl w6.heap.size w6) q
        have a7 := a6.nx B7
        have b7 := b6.nx B7
        have f7 := ((f4.nx B5).nx B6).nx B7
        have r7 := ((r0.nx B5).nx B6).nx B7
        have n5 := a7.1
        have u7 := st hu C7
        have i7 := st hi C7
        have j7 := st hj C7
        have hmk := make1_Both A c u (w6.drewN q) (some ⟨w.heap.size + 2, 0, none⟩) (some ⟨w.heap.size, 0, none⟩) (some ⟨w.heap.size + 1, 0, none⟩) (fun k => (fun x y => x && !y) (i.getD k false) (j.getD k false)) (by omega) u7 (fun k y w' hk hb => by
          have hku : k < u.length := (List.getElem?_eq_some_iff.1 hk).1
          exact b1_Minus (w.heap.size + 2) w.heap.size (w.heap.size + 1) A E D H c e0 d h0 _ _ i j k y w' (by rw [HIL.out]; exact hku) (by rw [HJL.out, HUV.out]; exact hku) (f7.nx hb) (a7.nx hb) (b7.nx hb) (st i7 hb) (st j7 hb))
        clear hsa hsb heq
        go_wp2_with fail
        refine hmk.mono ?_; rintro e w8 ⟨A8, c8, D8, d8, rfl, O8, P8, B8⟩
        have r8 := r7.nx B8
        have k1 := r8.1
        have k2 := r8.2.1
        have k3 := r8.2.2.1
        have k4 := r8.2.2.2.1
        have cp := r8.put (.slice A8 u.length c8) (.slice D8 u.length d8)
        have p1 := cp.1
        have p2 := cp.2.1
        have bp := put_below (b := w.heap.size + 3) (bt C7 B8) (by omega) (.slice A8 u.length c8) (.slice D8 u.length d8)
        go_wp2_with fail
        refine bodyPost_ret (v := .tuple #[.agg #[.slice A8 u.length c8, .slice D8 u.length d8], .int .i64 0]) (by simp [results, p1, p2, go_sem]) rfl ?_
        rw [HR.out]
        have hlt : w.heap.size + 3 < (w6.drewN q).heap.size := r7.2.2.2.2
        exact ⟨A8, c8, D8, d8, by simp [bothI], (O8.put hlt _ _).base_le C7.size, (P8.put hlt _ _).base_le C7.size, bp⟩
      · have HR := Lib.hid (bothA_ne (g := (fun x y => x && !y)) hab hv0)
        simp only [decide_eq_false hv0] at heq
        clear hv0
        go_enter Try.func33, Try.ntmps33
        go_wp2_with fail
        refine (hsa _ (st hu B4) (st hi B4)).mono ?_; rintro e w5 ⟨rfl, B5⟩
        have b5 := b4.nx B5
        have n1 := b5.1
        have n2 := b5.2.1
        have C5 := bt B4 B5
        go_wp2_with fail
        refine (hsb _ (st hv C5) (st hj C5)).mono ?_; rintro e w6 ⟨rfl, B6⟩
        have C6 := bt C5 B6
        have a6 := (a4.nx B5).nx B6
        have b6 := b5.nx B6
        have n3 := a6.1
        have n4 := b6.1
        go_wp2_with fail
        refine (heq _ (st hu C6) (st hv C6)).mono ?_; rintro e w7 ⟨rfl, q, rfl⟩
        have r6 := ((r0.nx B5).nx B6).nx (bdN (Below.refl w6.heap.size w6) q)
        have k1 := r6.1
        have k2 := r6.2.1
        have k3 := r6.2.2.1
        have k4 := r6.2.2.2.1
        have cp := r6.put (.slice none 0 0) (.slice none 0 0)
        have p1 := cp.1
        have p2 := cp.2.1
        have bp := put_below (b := w.heap.size + 3) (bdN C6 q) (by omega) (.slice none 0 0) (.slice none 0 0)
        go_wp2_with fail
        refine bodyPost_ret (v := .tuple #[.agg #[.slice none 0 0, .slice none 0 0], .int .i64 10]) (by simp [results, p1, p2, go_sem]) rfl ?_
        rw [HR.out]
        exact retSE_nil 10 bp
end Go.Proofs.Ytmgblmdilepkpaa
