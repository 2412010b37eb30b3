/- Merged texts: BiJ, BiK, BiL, BiM, BiN. -/
import Derived.Test.YtnlgoedklmjhlaaGI
import Derived.Deep.LoopGhost
import Derived.Test.YtnlgoedklmjhlaaGH
import Derived.Test.YtnlgoedklmjhlaaGJ
import Derived.Deep.RegionWith
namespace Go.Proofs.Ytnlgoedklmjhlaa
open Go.RowKit

theorem neg_one_int (X : Int) : -((X : Int) : Rat) + -1 = (((-X - 1 : Int)) : Rat) := by
  rw [Int.sub_eq_add_neg, Rat.intCast_add, Rat.intCast_neg, Rat.intCast_neg]; rfl
theorem rturn_int (X : Int) (s1 s2 : Bool) (a1 b1 : List Nat) (A1 D1 A2 D2 : Option Addr) (c1 d1 c2 d2 n2 m2 : Nat) (w : World) (h : (⟨s1, a1, b1⟩ : Rw) = rwq ((X : Int) : Rat)) (hl : a1.length ≤ 13000) (r1 : RW w w.heap.size A1 c1 a1) (r2 : RW w w.heap.size D1 d1 b1) :
    Calls Try.prog 40 #[.agg #[.bool s1, .slice A1 a1.length c1, .slice D1 b1.length d1, .bool s2, .slice A2 n2 c2, .slice D2 m2 d2]] w fun e w' => ∃ A c D d,
      e = .returned (.agg #[.bool (rwq (((-X - 1 : Int)) : Rat)).s, .slice A (rwq (((-X - 1 : Int)) : Rat)).a.length c, .slice D (rwq (((-X - 1 : Int)) : Rat)).b.length d, .bool s2, .slice A2 n2 c2, .slice D2 m2 d2]) ∧
      OW w' w.heap.size A c (rwq (((-X - 1 : Int)) : Rat)).a ∧ OW w' w.heap.size D d (rwq (((-X - 1 : Int)) : Rat)).b ∧ Below w.heap.size w w' := by
  have e1 : s1 = qn ((X : Int) : Rat) := congrArg Rw.s h
  have e2 : a1 = digs (qt ((X : Int) : Rat)) := congrArg Rw.a h
  have e3 : b1 = digs (qd ((X : Int) : Rat)) := congrArg Rw.b h
  rw [e2] at hl r1 ⊢
  rw [e3] at r2 ⊢
  rw [e1]
  have hq : qw ((X : Int) : Rat) ≤ 13000 := by
    unfold qw
    rw [qd_int, digs_one1]
    simp only [List.length_cons, List.length_nil]
    omega
  have hT := rturn_any ((X : Int) : Rat) s2 A1 D1 A2 D2 c1 d1 c2 d2 n2 m2 w r1 r2 hq
  rw [neg_one_int] at hT
  exact hT
theorem rowI_of {n : Nat} {o : List Nat} {v : Nat} (ho : o.length = n) (h : (digs v).length ≤ n) (hw : ∀ j, j < n → wd o j = wd (digs v) j) : o = rowI n (v : Int) := by
  rw [← row_pos h]
  have hl : (digs v ++ List.replicate (n - (digs v).length) 0).length = n := by simp; omega
  refine List.ext_getElem (by omega) (fun j h1 h2 => ?_)
  have e := hw j (by omega)
  unfold wd at e
  rw [List.getD_eq_getElem?_getD, List.getD_eq_getElem?_getD, List.getElem?_eq_getElem h1] at e
  by_cases hj : j < (digs v).length
  · rw [List.getElem_append_left hj]
    rwa [List.getElem?_eq_getElem hj] at e
  · rw [List.getElem_append_right (by omega), List.getElem_replicate]
    rwa [List.getElem?_eq_none (by omega)] at e
theorem rowI_ofn {n : Nat} {o : List Nat} {v : Nat} (ho : o.length = n) (h : (digs v).length ≤ n) (hw : ∀ j, j < n → wd o j = 4294967295 - wd (digs v) j) : o = rowI n (-(v : Int) - 1) := by
  rw [rowI_not]
  have hl : (rowI n (v : Int)).length = n := rowI_len _ _
  have e0 : rowI n (v : Int) = o.map (fun x => 4294967295 - x) := by
    symm
    refine rowI_of (by simpa using ho) h (fun j hj => ?_)
    have e := hw j hj
    have hb := wd_lt (B32_digs v) j
    unfold wd at e hb ⊢
    rw [List.getD_eq_getElem?_getD] at e ⊢
    rw [List.getElem?_map]
    rw [List.getElem?_eq_getElem (by omega)] at e ⊢
    simp only [Option.getD_some, Option.map_some] at e ⊢
    rw [e]
    omega
  rw [e0, List.map_map]
  have hb : ∀ x ∈ o, 4294967295 - (4294967295 - x) = x := fun x hx => by
    obtain ⟨j, hj, rfl⟩ := List.getElem_of_mem hx
    have e := hw j (by omega)
    unfold wd at e
    rw [List.getD_eq_getElem?_getD, List.getElem?_eq_getElem hj] at e
    simp only [Option.getD_some] at e
    omega
  conv => lhs; rw [← List.map_id o]
  exact List.map_congr_left (fun x hx => (hb x hx).symm)


set_option maxRecDepth 100000 in
set_option maxHeartbeats 8000000 in
theorem rbrow_false (v : Nat) (s2 : Bool) (a1 b1 t : List Nat) (ht : t = digs v) (A1 D1 A2 D2 : Option Addr) (c1 d1 c2 d2 n2 m2 n : Nat) (w : World) (h : (⟨false, a1, b1⟩ : Rw) = rwq (((v : Int) : Int) : Rat)) (hn : a1.length ≤ n) (hn1 : 1 ≤ n) (hn2 : n ≤ 10000) (r1 : RW w w.heap.size A1 c1 a1) (_ : RW w w.heap.size D1 d1 b1) :
    Calls Try.prog 35 #[(.agg #[.bool false, .slice A1 a1.length c1, .slice D1 b1.length d1, .bool s2, .slice A2 n2 c2, .slice D2 m2 d2]), .int .i64 (n : Int)] w fun e w' => ∃ g, e = .returned (.slice (some ⟨g, 0, none⟩) n n) ∧ OW w' w.heap.size (some ⟨g, 0, none⟩) n (rowI n (v : Int)) ∧ Below w.heap.size w w' := by
  have ea : a1 = t := by
    have e := congrArg Rw.a h
    rw [show ((v : Int) : Int) = sgn false v by rw [sgn_false], rwq_int false v (fun _ => rfl)] at e
    rw [ht]
    exact e
  subst ea
  have hlt : a1.length ≤ n := hn
  have hb32 := r1.2
  have HT := Lib.hid ht
  have Hh := Lib.hid h
  clear ht h
  have S1 := SB.new w [.bool false, .slice A1 a1.length c1, .slice D1 b1.length d1, .bool s2, .slice A2 n2 c2, .slice D2 m2 d2] 26
  have C1 := bal w (.cells #[.bool false, .slice A1 a1.length c1, .slice D1 b1.length d1, .bool s2, .slice A2 n2 c2, .slice D2 m2 d2] 26)
  obtain ⟨W1, hW1⟩ : ∃ W1, W1 = w.alloc (.cells #[.bool false, .slice A1 a1.length c1, .slice D1 b1.length d1, .bool s2, .slice A2 n2 c2, .slice D2 m2 d2] 26) := ⟨_, rfl⟩
  have hz1 : W1.heap.size = w.heap.size + 1 := by rw [hW1]; simp
  go_enter Try.func35, Try.ntmps35
  go_upto_region 1 with fail
  rw [← hW1] at S1 C1 ⊢
  clear hW1
  go_upto_region 2 with (at_make; refine wp_makeW _ rfl _ _ rfl .i64 .i64 _ _ n rfl rfl (by omega) (by omega) (by omega) ?_; intro wm hOm hbm hsm)
  rw [hz1] at hOm
  have S2_ := S1.nx hbm
  have C2 := bt C1 hbm
  have hz2 : w.heap.size + 1 < wm.heap.size := by have := hOm.lt.2; omega
  have i0 := S2_.cell 0
  have i1 := S2_.cell 1
  have i2 := S2_.cell 2
  have i3 := S2_.cell 3
  have i4 := S2_.cell 4
  have i5 := S2_.cell 5
  have Sc := SB.new wm [.bool false, .slice A1 a1.length c1, .slice D1 b1.length d1, .bool s2, .slice A2 n2 c2, .slice D2 m2 d2] 26
  have L3 := bal wm (.cells #[.bool false, .slice A1 a1.length c1, .slice D1 b1.length d1, .bool s2, .slice A2 n2 c2, .slice D2 m2 d2] 26)
  have S3_ := S2_.nx L3
  have C3 := bt C2 L3
  have O3 := hOm.alloc (.cells #[.bool false, .slice A1 a1.length c1, .slice D1 b1.length d1, .bool s2, .slice A2 n2 c2, .slice D2 m2 d2] 26)
  obtain ⟨W3, hW3⟩ : ∃ W3, W3 = wm.alloc (.cells #[.bool false, .slice A1 a1.length c1, .slice D1 b1.length d1, .bool s2, .slice A2 n2 c2, .slice D2 m2 d2] 26) := ⟨_, rfl⟩
  go_upto_region 3 with fail
  rw [← hW3] at Sc S3_ C3 O3 ⊢
  clear hW3 i0 i1 i2 i3 i4 i5 S2_ C2 L3 S1 C1 hbm hOm
  have i0 := S3_.cell 0
  have OT : True := trivial
  go_upto_region 5 with fail
  clear i0
  obtain ⟨W7, hW7⟩ : ∃ W7, W7 = W3 := ⟨_, rfl⟩
  rw [← hW7] at Sc C3 S3_ O3 ⊢
  clear hW7
  have s6 := Sc
  have C6 := C3
  have S6 := S3_
  have O7 := O3
  clear Sc C3 S3_ O3
  go_wp2_with fail
  go_loopg [7] n (fun gg iv wr => ∃ (k : Nat) (o : List Nat), k ≤ n ∧ n - k = gg ∧ iv = .int .i64 (k : Int) ∧ OW wr (w.heap.size + 1) (some ⟨w.heap.size + 1, 0, none⟩) n o ∧ 
    Hid (o.length = n ∧ (∀ j, k ≤ j → wd o j = 0) ∧ (∀ j, j < k → wd o j = wd a1 j)) ∧ SB wr w.heap.size [.bool false, .slice A1 a1.length c1, .slice D1 b1.length d1, .bool s2, .slice A2 n2 c2, .slice D2 m2 d2] ∧ SB wr wm.heap.size [.bool false, .slice A1 a1.length c1, .slice D1 b1.length d1, .bool s2, .slice A2 n2 c2, .slice D2 m2 d2] ∧ Below w.heap.size w wr)
  case atStart => exact ⟨0, _, Nat.zero_le _, rfl, rfl, O7, Lib.hid ⟨by simp, fun j _ => by unfold wd; simp [List.getD_eq_getElem?_getD, List.getElem?_replicate]; split <;> rfl, fun j hj => by omega⟩, S6, s6, C6⟩
  case round =>
    obtain ⟨k, o, hk, rfl, rfl, Q, hI, Sa, Sb, BB⟩ := hrel
    by_cases hk0 : k < n
    · obtain ⟨hol, hrest, hdone⟩ := hI.out
      have cx := Q.cell (k := k) (by omega)
      rw [hrest k (Nat.le_refl _)] at cx
      have fx := Q.frozen k
      have i0 := Sa.cell 0
      have i1 := Sb.cell 1
      have hzb : w.heap.size + 1 < wm.heap.size := hz2
      by_cases hkt : k < a1.length
      · obtain ⟨gT, oT, rfl, hgT, hxT⟩ := (st r1 BB).at_ (by omega)
        have ct_ := hxT k hkt
        clear hxT
        have HI : Hid (((o.set k (wd a1 k))).length = n ∧ (∀ j, k + 1 ≤ j → wd ((o.set k (wd a1 k))) j = 0) ∧ (∀ j, j < k + 1 → wd ((o.set k (wd a1 k))) j = wd a1 j)) := by
          refine ⟨by simpa using hol, fun j hj => ?_, fun j hj => ?_⟩
          · have e := hrest j (by omega)
            first | exact e | (rw [wd_set_ne (by omega)]; exact e) | (rw [wd_set_ne (by omega), wd_set_ne (by omega)]; exact e)
          · by_cases e : j = k
            · subst e
              exact wd_set_eq (by omega)
            · have e := hdone j (by omega)
              first | exact e | (rw [wd_set_ne (by omega)]; exact e) | (rw [wd_set_ne (by omega), wd_set_ne (by omega)]; exact e)
        clear hol hrest hdone hI
        go_wp2_with fail
        have Q := Q.set k (wd_lt hb32 k)
        have Sa := Sa.far (p := ⟨w.heap.size + 1, k, none⟩) (by show w.heap.size ≠ w.heap.size + 1; omega) (.int .u32 ((wd a1 k : Nat) : Int))
        have Sb := Sb.far (p := ⟨w.heap.size + 1, k, none⟩) (by show wm.heap.size ≠ w.heap.size + 1; omega) (.int .u32 ((wd a1 k : Nat) : Int))
        have BB := BB.setCell (p := ⟨w.heap.size + 1, k, none⟩) (by show w.heap.size ≤ w.heap.size + 1; omega) (.int .u32 ((wd a1 k : Nat) : Int))
        go_roundg (n - (k + 1))
        case measure => omega
        case rel => exact ⟨k + 1, (o.set k (wd a1 k)), by omega, rfl, by go_num, Q, HI, Sa, Sb, BB⟩
      · have hwt : wd a1 k = 0 := wd_out (by omega)
        have HW := Lib.hid hwt
        have HI : Hid ((o).length = n ∧ (∀ j, k + 1 ≤ j → wd (o) j = 0) ∧ (∀ j, j < k + 1 → wd (o) j = wd a1 j)) := by
          refine ⟨by simpa using hol, fun j hj => ?_, fun j hj => ?_⟩
          · have e := hrest j (by omega)
            first | exact e | (rw [wd_set_ne (by omega)]; exact e) | (rw [wd_set_ne (by omega), wd_set_ne (by omega)]; exact e)
          · by_cases e : j = k
            · subst e
              rw [hrest j (Nat.le_refl _), HW.out]
            · have e := hdone j (by omega)
              first | exact e | (rw [wd_set_ne (by omega)]; exact e) | (rw [wd_set_ne (by omega), wd_set_ne (by omega)]; exact e)
        clear hol hrest hdone hI hwt
        go_wp2_with fail
        go_roundg (n - (k + 1))
        case measure => omega
        case rel => exact ⟨k + 1, o, by omega, rfl, by go_num, Q, HI, Sa, Sb, BB⟩
    · obtain rfl : k = n := by omega
      have hfin : o = rowI k (v : Int) := by
        obtain ⟨hol, _, hdone⟩ := hI.out
        rw [HT.out] at hlt hdone
        exact rowI_of hol hlt hdone
      subst hfin
      clear hI hk0
      go_wp2_with fail
      go_ret
      exact ⟨w.heap.size + 1, rfl, Q.base_le (by omega), BB⟩


set_option maxRecDepth 100000 in
set_option maxHeartbeats 8000000 in
theorem rbrow_true (v : Nat) (s2 : Bool) (a1 b1 t : List Nat) (ht : t = digs v) (A1 D1 A2 D2 : Option Addr) (c1 d1 c2 d2 n2 m2 n : Nat) (w : World) (h : (⟨true, a1, b1⟩ : Rw) = rwq (((-(v : Int) - 1) : Int) : Rat)) (hn : a1.length ≤ n) (hn1 : 1 ≤ n) (hn2 : n ≤ 10000) (r1 : RW w w.heap.size A1 c1 a1) (r2 : RW w w.heap.size D1 d1 b1) :
    Calls Try.prog 35 #[(.agg #[.bool true, .slice A1 a1.length c1, .slice D1 b1.length d1, .bool s2, .slice A2 n2 c2, .slice D2 m2 d2]), .int .i64 (n : Int)] w fun e w' => ∃ g, e = .returned (.slice (some ⟨g, 0, none⟩) n n) ∧ OW w' w.heap.size (some ⟨g, 0, none⟩) n (rowI n (-(v : Int) - 1)) ∧ Below w.heap.size w w' := by
  have ea : a1 = digs (v + 1) := by
    have e := congrArg Rw.a h
    rw [show ((-(v : Int) - 1) : Int) = sgn true (v + 1) by rw [sgn_true]; omega, rwq_int true (v + 1) (by omega)] at e
    exact e
  have hlt : (digs v).length ≤ n := Nat.le_trans (by rw [ea]; exact digs_mono (Nat.le_succ v)) hn
  have hY : (-((-(v : Int) - 1) : Int) - 1) = sgn false v := by rw [sgn_false]; omega
  have hT := fun w' h1 h2 => rturn_int (-(v : Int) - 1) true s2 a1 b1 A1 D1 A2 D2 c1 d1 c2 d2 n2 m2 w' h (by omega) h1 h2
  rw [hY, rwq_int false v (fun _ => rfl)] at hT
  dsimp only at hT
  rw [← ht] at hT hlt
  have hb32 : B32 t := by rw [ht]; exact B32_digs v
  clear ea hY
  have HT := Lib.hid ht
  have Hh := Lib.hid h
  clear ht h
  have S1 := SB.new w [.bool true, .slice A1 a1.length c1, .slice D1 b1.length d1, .bool s2, .slice A2 n2 c2, .slice D2 m2 d2] 26
  have C1 := bal w (.cells #[.bool true, .slice A1 a1.length c1, .slice D1 b1.length d1, .bool s2, .slice A2 n2 c2, .slice D2 m2 d2] 26)
  obtain ⟨W1, hW1⟩ : ∃ W1, W1 = w.alloc (.cells #[.bool true, .slice A1 a1.length c1, .slice D1 b1.length d1, .bool s2, .slice A2 n2 c2, .slice D2 m2 d2] 26) := ⟨_, rfl⟩
  have hz1 : W1.heap.size = w.heap.size + 1 := by rw [hW1]; simp
  go_enter Try.func35, Try.ntmps35
  go_upto_region 1 with fail
  rw [← hW1] at S1 C1 ⊢
  clear hW1
  go_upto_region 2 with (at_make; refine wp_makeW _ rfl _ _ rfl .i64 .i64 _ _ n rfl rfl (by omega) (by omega) (by omega) ?_; intro wm hOm hbm hsm)
  rw [hz1] at hOm
  have S2_ := S1.nx hbm
  have C2 := bt C1 hbm
  have hz2 : w.heap.size + 1 < wm.heap.size := by have := hOm.lt.2; omega
  have i0 := S2_.cell 0
  have i1 := S2_.cell 1
  have i2 := S2_.cell 2
  have i3 := S2_.cell 3
  have i4 := S2_.cell 4
  have i5 := S2_.cell 5
  have Sc := SB.new wm [.bool true, .slice A1 a1.length c1, .slice D1 b1.length d1, .bool s2, .slice A2 n2 c2, .slice D2 m2 d2] 26
  have L3 := bal wm (.cells #[.bool true, .slice A1 a1.length c1, .slice D1 b1.length d1, .bool s2, .slice A2 n2 c2, .slice D2 m2 d2] 26)
  have S3_ := S2_.nx L3
  have C3 := bt C2 L3
  have O3 := hOm.alloc (.cells #[.bool true, .slice A1 a1.length c1, .slice D1 b1.length d1, .bool s2, .slice A2 n2 c2, .slice D2 m2 d2] 26)
  obtain ⟨W3, hW3⟩ : ∃ W3, W3 = wm.alloc (.cells #[.bool true, .slice A1 a1.length c1, .slice D1 b1.length d1, .bool s2, .slice A2 n2 c2, .slice D2 m2 d2] 26) := ⟨_, rfl⟩
  go_upto_region 3 with fail
  rw [← hW3] at Sc S3_ C3 O3 ⊢
  clear hW3 i0 i1 i2 i3 i4 i5 S2_ C2 L3 S1 C1 hbm hOm
  have i0 := S3_.cell 0
  have i1 := S3_.cell 1
  have i2 := S3_.cell 2
  have i3 := S3_.cell 3
  have i4 := S3_.cell 4
  have i5 := S3_.cell 5
  go_wp2_with fail
  refine (hT W3 (st r1 C3) (st r2 C3)).mono ?_; rintro e w5 ⟨T, ct, D3, d3, rfl, O5, P5, B5⟩
  clear i0 i1 i2 i3 i4 i5 hT
  have hRC := (Sc.nx B5).rc (n := 6)
  have S5 := S3_.nx B5
  have C5 := bt C3 B5
  have O6 := O3.below B5 (Nat.le_refl _)
  have hlc := Sc.lt
  go_upto_region 5 with (refine wp_st6 rfl (.tmp 6) (.tmp 15) rfl _ rfl _ _ _ _ _ _ rfl hRC rfl rfl rfl rfl rfl rfl ?_)
  have s6 := hRC.put6 (.bool false) (.slice T t.length ct) (.slice D3 1 d3) (.bool s2) (.slice A2 n2 c2) (.slice D2 m2 d2)
  have C6 := wr6_below (b := wm.heap.size) C5 (by omega) (.bool false) (.slice T t.length ct) (.slice D3 1 d3) (.bool s2) (.slice A2 n2 c2) (.slice D2 m2 d2)
  have S6 := S5.wr6 (r := wm.heap.size) (by omega) (.bool false) (.slice T t.length ct) (.slice D3 1 d3) (.bool s2) (.slice A2 n2 c2) (.slice D2 m2 d2)
  have O7 := O6.putg (b := wm.heap.size) (by omega) (.bool false) (.slice T t.length ct) (.slice D3 1 d3) (.bool s2) (.slice A2 n2 c2) (.slice D2 m2 d2)
  have OT := O5.put6 (b := wm.heap.size) (by omega) (.bool false) (.slice T t.length ct) (.slice D3 1 d3) (.bool s2) (.slice A2 n2 c2) (.slice D2 m2 d2)
  obtain ⟨W7, hW7⟩ : ∃ W7, W7 = wr6 w5 wm.heap.size (.bool false) (.slice T t.length ct) (.slice D3 1 d3) (.bool s2) (.slice A2 n2 c2) (.slice D2 m2 d2) := ⟨_, rfl⟩
  rw [← hW7] at s6 C6 S6 O7 OT ⊢
  clear hW7 O5 P5 B5 O6 hRC S5 C5 Sc S3_ C3 O3
  go_wp2_with fail
  go_loopg [7] n (fun gg iv wr => ∃ (k : Nat) (o : List Nat), k ≤ n ∧ n - k = gg ∧ iv = .int .i64 (k : Int) ∧ OW wr (w.heap.size + 1) (some ⟨w.heap.size + 1, 0, none⟩) n o ∧ OW wr W3.heap.size T ct t ∧ 
    Hid (o.length = n ∧ (∀ j, k ≤ j → wd o j = 0) ∧ (∀ j, j < k → wd o j = 4294967295 - wd t j)) ∧ SB wr w.heap.size [.bool true, .slice A1 a1.length c1, .slice D1 b1.length d1, .bool s2, .slice A2 n2 c2, .slice D2 m2 d2] ∧ SB wr wm.heap.size [.bool false, .slice T t.length ct, .slice D3 1 d3, .bool s2, .slice A2 n2 c2, .slice D2 m2 d2] ∧ Below w.heap.size w wr)
  case atStart => exact ⟨0, _, Nat.zero_le _, rfl, rfl, O7, OT, Lib.hid ⟨by simp, fun j _ => by unfold wd; simp [List.getD_eq_getElem?_getD, List.getElem?_replicate]; split <;> rfl, fun j hj => by omega⟩, S6, s6, C6⟩
  case round =>
    obtain ⟨k, o, hk, rfl, rfl, Q, OT, hI, Sa, Sb, BB⟩ := hrel
    by_cases hk0 : k < n
    · obtain ⟨hol, hrest, hdone⟩ := hI.out
      have cx := Q.cell (k := k) (by omega)
      rw [hrest k (Nat.le_refl _)] at cx
      have fx := Q.frozen k
      have i0 := Sa.cell 0
      have i1 := Sb.cell 1
      have hzb : w.heap.size + 1 < wm.heap.size := hz2
      by_cases hkt : k < t.length
      · obtain ⟨gT, oT, rfl, hgT, hxT⟩ := OT.rw.at_ (by omega)
        have ct_ := hxT k hkt
        clear hxT
        have hnw := not_word (x := wd t k) (by first | exact wd_lt hb32 k | omega)
        have HI : Hid ((((o.set k (wd t k)).set k (4294967295 - wd t k))).length = n ∧ (∀ j, k + 1 ≤ j → wd (((o.set k (wd t k)).set k (4294967295 - wd t k))) j = 0) ∧ (∀ j, j < k + 1 → wd (((o.set k (wd t k)).set k (4294967295 - wd t k))) j = 4294967295 - wd t j)) := by
          refine ⟨by simpa using hol, fun j hj => ?_, fun j hj => ?_⟩
          · have e := hrest j (by omega)
            first | exact e | (rw [wd_set_ne (by omega)]; exact e) | (rw [wd_set_ne (by omega), wd_set_ne (by omega)]; exact e)
          · by_cases e : j = k
            · subst e
              exact wd_set_eq (by rw [List.length_set]; omega)
            · have e := hdone j (by omega)
              first | exact e | (rw [wd_set_ne (by omega)]; exact e) | (rw [wd_set_ne (by omega), wd_set_ne (by omega)]; exact e)
        clear hol hrest hdone hI
        go_wp2_with fail
        have Q := Q.set k (wd_lt hb32 k)
        have Sa := Sa.far (p := ⟨w.heap.size + 1, k, none⟩) (by show w.heap.size ≠ w.heap.size + 1; omega) (.int .u32 ((wd t k : Nat) : Int))
        have Sb := Sb.far (p := ⟨w.heap.size + 1, k, none⟩) (by show wm.heap.size ≠ w.heap.size + 1; omega) (.int .u32 ((wd t k : Nat) : Int))
        have BB := BB.setCell (p := ⟨w.heap.size + 1, k, none⟩) (by show w.heap.size ≤ w.heap.size + 1; omega) (.int .u32 ((wd t k : Nat) : Int))
        have OT := OT.far (p := ⟨w.heap.size + 1, k, none⟩) (fun g' hA => by have := OT.bet g' hA; show g' ≠ w.heap.size + 1; omega) (.int .u32 ((wd t k : Nat) : Int))
        have Q := Q.set k (show 4294967295 - wd t k < 4294967296 by omega)
        have Sa := Sa.far (p := ⟨w.heap.size + 1, k, none⟩) (by show w.heap.size ≠ w.heap.size + 1; omega) (.int .u32 ((4294967295 - wd t k : Nat) : Int))
        have Sb := Sb.far (p := ⟨w.heap.size + 1, k, none⟩) (by show wm.heap.size ≠ w.heap.size + 1; omega) (.int .u32 ((4294967295 - wd t k : Nat) : Int))
        have BB := BB.setCell (p := ⟨w.heap.size + 1, k, none⟩) (by show w.heap.size ≤ w.heap.size + 1; omega) (.int .u32 ((4294967295 - wd t k : Nat) : Int))
        have OT := OT.far (p := ⟨w.heap.size + 1, k, none⟩) (fun g' hA => by have := OT.bet g' hA; show g' ≠ w.heap.size + 1; omega) (.int .u32 ((4294967295 - wd t k : Nat) : Int))
        go_roundg (n - (k + 1))
        case measure => omega
        case rel => exact ⟨k + 1, ((o.set k (wd t k)).set k (4294967295 - wd t k)), by omega, rfl, by go_num, Q, OT, HI, Sa, Sb, BB⟩
      · have hwt : wd t k = 0 := wd_out (by omega)
        have HW := Lib.hid hwt
        have hnw := not_word (x := 0) (by first | exact wd_lt hb32 k | omega)
        simp only [Int.ofNat_zero, Nat.sub_zero] at hnw
        have HI : Hid (((o.set k (4294967295))).length = n ∧ (∀ j, k + 1 ≤ j → wd ((o.set k (4294967295))) j = 0) ∧ (∀ j, j < k + 1 → wd ((o.set k (4294967295))) j = 4294967295 - wd t j)) := by
          refine ⟨by simpa using hol, fun j hj => ?_, fun j hj => ?_⟩
          · have e := hrest j (by omega)
            first | exact e | (rw [wd_set_ne (by omega)]; exact e) | (rw [wd_set_ne (by omega), wd_set_ne (by omega)]; exact e)
          · by_cases e : j = k
            · subst e
              rw [wd_set_eq (by omega), HW.out]
            · have e := hdone j (by omega)
              first | exact e | (rw [wd_set_ne (by omega)]; exact e) | (rw [wd_set_ne (by omega), wd_set_ne (by omega)]; exact e)
        clear hol hrest hdone hI hwt
        go_wp2_with fail
        have Q := Q.set k (show 4294967295 < 4294967296 by omega)
        have Sa := Sa.far (p := ⟨w.heap.size + 1, k, none⟩) (by show w.heap.size ≠ w.heap.size + 1; omega) (.int .u32 ((4294967295 : Nat) : Int))
        have Sb := Sb.far (p := ⟨w.heap.size + 1, k, none⟩) (by show wm.heap.size ≠ w.heap.size + 1; omega) (.int .u32 ((4294967295 : Nat) : Int))
        have BB := BB.setCell (p := ⟨w.heap.size + 1, k, none⟩) (by show w.heap.size ≤ w.heap.size + 1; omega) (.int .u32 ((4294967295 : Nat) : Int))
        have OT := OT.far (p := ⟨w.heap.size + 1, k, none⟩) (fun g' hA => by have := OT.bet g' hA; show g' ≠ w.heap.size + 1; omega) (.int .u32 ((4294967295 : Nat) : Int))
        go_roundg (n - (k + 1))
        case measure => omega
        case rel => exact ⟨k + 1, (o.set k (4294967295)), by omega, rfl, by go_num, Q, OT, HI, Sa, Sb, BB⟩
    · obtain rfl : k = n := by omega
      have hfin : o = rowI k (-(v : Int) - 1) := by
        obtain ⟨hol, _, hdone⟩ := hI.out
        rw [HT.out] at hlt hdone
        exact rowI_ofn hol hlt hdone
      subst hfin
      clear hI hk0
      go_wp2_with fail
      go_ret
      exact ⟨w.heap.size + 1, rfl, Q.base_le (by omega), BB⟩

end Go.Proofs.Ytnlgoedklmjhlaa
namespace Go.Proofs.Ytnlgoedklmjhlaa
open Go.RowKit

theorem OW.far6 {w : World} {base b c : Nat} {A : Option Addr} {l : List Nat} (h : OW w base A c l) (hb : ∀ g, A = some ⟨g, 0, none⟩ → g ≠ b) (x y z x' y' z' : Value) : OW (wr6 w b x y z x' y' z') base A c l := by
  have f : ∀ {w : World}, OW w base A c l → ∀ i v, OW (w.setCell ⟨b, i, none⟩ v) base A c l := fun O i v => O.far hb _
  exact f (f (f (f (f (f h 0 x) 1 y) 2 z) 3 x') 4 y') 5 z'
theorem OW.kb {w w' : World} {base B c : Nat} {A : Option Addr} {l : List Nat} (h : OW w base A c l) (hb : Below B w w') (hlt : ∀ g, A = some ⟨g, 0, none⟩ → g < B) : OW w' base A c l := ⟨OL.kept h.1 (fun g hg => hb.block g (hlt g hg)), h.2⟩


set_option maxRecDepth 100000 in
set_option maxHeartbeats 8000000 in
theorem rbnum_false (A : Option Addr) (c m : Nat) (l : List Nat) (w : World) (h : RW w w.heap.size A c l) (hl : l.length = m + 1) (hm : m < 10000) (hd : wd l m / 2147483648 = 0) :
    Calls Try.prog 36 #[.slice A (m + 1) c] w fun e w' => (512 < (digs (val l)).length → RetNE w (rw0, rw0, 4) e w') ∧ ((digs (val l)).length ≤ 512 → RetNE w (⟨false, digs (val l), [1]⟩, ⟨false, [], [1]⟩, 0) e w') := by
  have hb := wd_lt h.b32 m
  have hbb := h.b32
  have C1 := bal w (.cells #[.bool false, .slice none 0 0, .slice none 0 0, .bool false, .slice none 0 0, .slice none 0 0] 26)
  have S1 := SB.new w [.bool false, .slice none 0 0, .slice none 0 0, .bool false, .slice none 0 0, .slice none 0 0] 26
  have hZ := fun w' => rzero_any w'
  have T1 : (((wd l m : Nat) : Int) / 2147483648 == 1) = false := by exact beq_eq_false_iff_ne.2 (by omega)
  clear hd
  obtain ⟨W1, hW1⟩ : ∃ W1, W1 = w.alloc (.cells #[.bool false, .slice none 0 0, .slice none 0 0, .bool false, .slice none 0 0, .slice none 0 0] 26) := ⟨_, rfl⟩
  have hz1 : w.heap.size + 1 = W1.heap.size := by rw [hW1]; simp
  go_enter Try.func36, Try.ntmps36
  go_upto_region 1 with fail
  rw [← hW1] at C1 S1 ⊢
  clear hW1
  go_wp2_with fail
  refine (hZ _).mono ?_; rintro e w3 ⟨D3, d3, rfl, O3, B3⟩
  go_wp2_with fail
  refine (hZ _).mono ?_; rintro e w4 ⟨D4, d4, rfl, O4, B4⟩
  clear hZ
  have L5 := bal w4 (.cells #[.bool false, .slice none 0 0, .slice D3 1 d3, .bool false, .slice none 0 0, .slice D4 1 d4] 26)
  have Sn := SB.new w4 [.bool false, .slice none 0 0, .slice D3 1 d3, .bool false, .slice none 0 0, .slice D4 1 d4] 26
  have S5 := ((S1.nx B3).nx B4).nx L5
  have C5 := bt (bt (bt C1 B3) B4) L5
  have z3 : W1.heap.size ≤ w3.heap.size := B3.size
  have z4 : w3.heap.size ≤ w4.heap.size := B4.size
  have hz5 : w4.heap.size < (w4.alloc (.cells #[.bool false, .slice none 0 0, .slice D3 1 d3, .bool false, .slice none 0 0, .slice D4 1 d4] 26)).heap.size := by simp
  have O3 := (O3.below B4 (Nat.le_refl _))
  have b3 := O3.bet
  have b4 := O4.bet
  have o3 := O3.alloc (.cells #[.bool false, .slice none 0 0, .slice D3 1 d3, .bool false, .slice none 0 0, .slice D4 1 d4] 26)
  have o4 := O4.alloc (.cells #[.bool false, .slice none 0 0, .slice D3 1 d3, .bool false, .slice none 0 0, .slice D4 1 d4] 26)
  obtain ⟨W5, hW5⟩ : ∃ W5, W5 = w4.alloc (.cells #[.bool false, .slice none 0 0, .slice D3 1 d3, .bool false, .slice none 0 0, .slice D4 1 d4] 26) := ⟨_, rfl⟩
  go_upto_region 2 with fail
  rw [← hW5] at S5 C5 o3 o4 Sn hz5 ⊢
  clear hW5 S1 B3 B4 L5 C1 O3 O4
  have h5 := st h C5
  obtain ⟨gl, ol, rfl, hgl, hx⟩ := h5.at_ (by omega)
  have cm := hx m (by omega)
  have hN := rnorm_any (some ⟨gl, ol, none⟩) c (m + 1) l W5 hl.symm h5
  go_wp2_with fail
  refine hN.mono ?_; rintro e w6 ⟨T, ct, rfl, OT, B6⟩
  clear hN cm hx h5
  have bT : ∀ g', T = some ⟨g', 0, none⟩ → w4.heap.size < g' := fun g' hA => by have := OT.bet g' hA; omega
  have Sn := Sn.nx B6
  have S5 := S5.nx B6
  have C5 := bt C5 B6
  have o3 := o3.below B6 (Nat.le_refl _)
  have o4 := o4.below B6 (Nat.le_refl _)
  have i1 := Sn.cell 1
  have f1 := Sn.frozen 1
  obtain ⟨d, hd⟩ : ∃ d, Hid (digs (val l) = d) := ⟨_, rfl⟩
  rw [hd.out] at OT ⊢
  go_upto_region 11 with fail
  clear i1 f1
  have hz6 : W5.heap.size ≤ w6.heap.size := B6.size
  have Sn := Sn.set 1 (.slice T d.length ct)
  have S5 := S5.far (p := ⟨w4.heap.size, 1, none⟩) (by show w.heap.size ≠ w4.heap.size; omega) (.slice T d.length ct)
  have C5 := C5.setCell (p := ⟨w4.heap.size, 1, none⟩) (by show w.heap.size ≤ w4.heap.size; omega) (.slice T d.length ct)
  have o3 := o3.far (p := ⟨w4.heap.size, 1, none⟩) (fun g' hA => by have := b3 g' hA; show g' ≠ w4.heap.size; omega) (.slice T d.length ct)
  have o4 := o4.far (p := ⟨w4.heap.size, 1, none⟩) (fun g' hA => by have := b4 g' hA; show g' ≠ w4.heap.size; omega) (.slice T d.length ct)
  have OT := OT.far (p := ⟨w4.heap.size, 1, none⟩) (fun g' hA => by have := bT g' hA; show g' ≠ w4.heap.size; omega) (.slice T d.length ct)
  obtain ⟨w8, hW8⟩ : ∃ w8, w8 = w6.setCell ⟨w4.heap.size, 1, none⟩ (.slice T d.length ct) := ⟨_, rfl⟩
  rw [← hW8] at Sn S5 C5 OT o3 o4 ⊢
  clear hW8 B6
  have hRC := S5.rc (n := 6)
  by_cases h5 : 512 < d.length
  · have n0 := Sn.cell 0
    have n1 := Sn.cell 1
    go_wp2_with (refine wp_st6 rfl (.tmp 2) (.tmp 48) rfl _ rfl _ _ _ _ _ _ rfl hRC rfl rfl rfl rfl rfl rfl ?_)
    have s6 := hRC.put6 (.bool false) (.slice none 0 0) (.slice none 0 0) (.bool false) (.slice none 0 0) (.slice none 0 0)
    have B6 := wr6_below (b := w.heap.size) C5 (Nat.le_refl _) (.bool false) (.slice none 0 0) (.slice none 0 0) (.bool false) (.slice none 0 0) (.slice none 0 0)
    have r0' := s6.cell 0
    have r1' := s6.cell 1
    have r2' := s6.cell 2
    have r3' := s6.cell 3
    have r4' := s6.cell 4
    have r5' := s6.cell 5
    refine bodyPost_ret (v := .tuple #[.agg #[.bool false, .slice none 0 0, .slice none 0 0, .bool false, .slice none 0 0, .slice none 0 0], .int .i64 4]) (by simp [results, r0', r1', r2', r3', r4', r5', go_sem]) rfl ?_
    rw [hd.out]
    exact ⟨fun _ => retNE_nil 4 B6, fun h => absurd h5 (by omega)⟩
  · have n0 := Sn.cell 0
    have n1 := Sn.cell 1
    have n2 := Sn.cell 2
    have n3 := Sn.cell 3
    have n4 := Sn.cell 4
    have n5 := Sn.cell 5
    go_wp2_with (refine wp_st6 rfl (.tmp 2) (.tmp 49) rfl _ rfl _ _ _ _ _ _ rfl hRC rfl rfl rfl rfl rfl rfl ?_)
    clear n0 n1 n2 n3 n4 n5
    have s6 := hRC.put6 (.bool false) (.slice T d.length ct) (.slice D3 1 d3) (.bool false) (.slice none 0 0) (.slice D4 1 d4)
    have B6 := wr6_below (b := w.heap.size) C5 (Nat.le_refl _) (.bool false) (.slice T d.length ct) (.slice D3 1 d3) (.bool false) (.slice none 0 0) (.slice D4 1 d4)
    have OT := OT.put6 (b := w.heap.size) (by omega) (.bool false) (.slice T d.length ct) (.slice D3 1 d3) (.bool false) (.slice none 0 0) (.slice D4 1 d4)
    have o3 := o3.put6 (b := w.heap.size) (by omega) (.bool false) (.slice T d.length ct) (.slice D3 1 d3) (.bool false) (.slice none 0 0) (.slice D4 1 d4)
    have o4 := o4.put6 (b := w.heap.size) (by omega) (.bool false) (.slice T d.length ct) (.slice D3 1 d3) (.bool false) (.slice none 0 0) (.slice D4 1 d4)
    have r0' := s6.cell 0
    have r1' := s6.cell 1
    have r2' := s6.cell 2
    have r3' := s6.cell 3
    have r4' := s6.cell 4
    have r5' := s6.cell 5
    refine bodyPost_ret (v := .tuple #[.agg #[.bool false, .slice T d.length ct, .slice D3 1 d3, .bool false, .slice none 0 0, .slice D4 1 d4], .int .i64 0]) (by simp [results, r0', r1', r2', r3', r4', r5', go_sem]) rfl ?_
    rw [hd.out]
    exact ⟨fun h => absurd h h5, fun _ => ⟨_, _, _, _, _, _, _, _, rfl, OT.base_le (by omega), o3.base_le (by omega), OW.nil _ _, o4.base_le (by omega), B6⟩⟩


set_option maxRecDepth 100000 in
set_option maxHeartbeats 8000000 in
theorem rbnum_true (A : Option Addr) (c m : Nat) (l : List Nat) (w : World) (h : RW w w.heap.size A c l) (hl : l.length = m + 1) (hm : m < 10000) (hd : wd l m / 2147483648 = 1) (v : Nat) (hv : val (l.map fun x => 4294967295 - x) = v) :
    Calls Try.prog 36 #[.slice A (m + 1) c] w fun e w' => (512 < (digs (v + 1)).length → RetNE w (rw0, rw0, 4) e w') ∧ ((digs (v + 1)).length ≤ 512 → RetNE w (⟨true, digs (v + 1), [1]⟩, ⟨false, [], [1]⟩, 0) e w') := by
  have hb := wd_lt h.b32 m
  have hbb := h.b32
  have C1 := bal w (.cells #[.bool false, .slice none 0 0, .slice none 0 0, .bool false, .slice none 0 0, .slice none 0 0] 26)
  have S1 := SB.new w [.bool false, .slice none 0 0, .slice none 0 0, .bool false, .slice none 0 0, .slice none 0 0] 26
  have hZ := fun w' => rzero_any w'
  have T1 : (((wd l m : Nat) : Int) / 2147483648 == 1) = true := by rw [beq_iff_eq]; omega
  clear hd
  have HV := Lib.hid hv
  have hvl : (digs v).length ≤ m + 1 := by rw [← hv]; exact digs_len_le.2 (Nat.lt_of_lt_of_le (val_lt (by intro x hx; obtain ⟨y, _, rfl⟩ := List.mem_map.1 hx; omega)) (by rw [List.length_map, hl]; exact Nat.le_refl _))
  clear hv
  obtain ⟨W1, hW1⟩ : ∃ W1, W1 = w.alloc (.cells #[.bool false, .slice none 0 0, .slice none 0 0, .bool false, .slice none 0 0, .slice none 0 0] 26) := ⟨_, rfl⟩
  have hz1 : w.heap.size + 1 = W1.heap.size := by rw [hW1]; simp
  go_enter Try.func36, Try.ntmps36
  go_upto_region 1 with fail
  rw [← hW1] at C1 S1 ⊢
  clear hW1
  go_wp2_with fail
  refine (hZ _).mono ?_; rintro e w3 ⟨D3, d3, rfl, O3, B3⟩
  go_wp2_with fail
  refine (hZ _).mono ?_; rintro e w4 ⟨D4, d4, rfl, O4, B4⟩
  clear hZ
  have L5 := bal w4 (.cells #[.bool false, .slice none 0 0, .slice D3 1 d3, .bool false, .slice none 0 0, .slice D4 1 d4] 26)
  have Sn := SB.new w4 [.bool false, .slice none 0 0, .slice D3 1 d3, .bool false, .slice none 0 0, .slice D4 1 d4] 26
  have S5 := ((S1.nx B3).nx B4).nx L5
  have C5 := bt (bt (bt C1 B3) B4) L5
  have z3 : W1.heap.size ≤ w3.heap.size := B3.size
  have z4 : w3.heap.size ≤ w4.heap.size := B4.size
  have hz5 : w4.heap.size < (w4.alloc (.cells #[.bool false, .slice none 0 0, .slice D3 1 d3, .bool false, .slice none 0 0, .slice D4 1 d4] 26)).heap.size := by simp
  have O3 := (O3.below B4 (Nat.le_refl _))
  have b3 := O3.bet
  have b4 := O4.bet
  have o3 := O3.alloc (.cells #[.bool false, .slice none 0 0, .slice D3 1 d3, .bool false, .slice none 0 0, .slice D4 1 d4] 26)
  have o4 := O4.alloc (.cells #[.bool false, .slice none 0 0, .slice D3 1 d3, .bool false, .slice none 0 0, .slice D4 1 d4] 26)
  obtain ⟨W5, hW5⟩ : ∃ W5, W5 = w4.alloc (.cells #[.bool false, .slice none 0 0, .slice D3 1 d3, .bool false, .slice none 0 0, .slice D4 1 d4] 26) := ⟨_, rfl⟩
  go_upto_region 2 with fail
  rw [← hW5] at S5 C5 o3 o4 Sn hz5 ⊢
  clear hW5 S1 B3 B4 L5 C1 O3 O4
  have h5 := st h C5
  obtain ⟨gl, ol, rfl, hgl, hx⟩ := h5.at_ (by omega)
  have cm := hx m (by omega)
  go_upto_region 3 with fail
  clear cm T1
  have L6 := bal W5 (.cells #[] 46)
  have OE := OW.empty W5
  have hz6 : W5.heap.size < (W5.alloc (.cells #[] 46)).heap.size := by simp
  have Sn := Sn.nx L6
  have S5 := S5.nx L6
  have C5 := bt C5 L6
  have o3 := o3.below L6 (Nat.le_refl _)
  have o4 := o4.below L6 (Nat.le_refl _)
  obtain ⟨W6, hW6⟩ : ∃ W6, W6 = W5.alloc (.cells #[] 46) := ⟨_, rfl⟩
  go_upto_region 4 with fail
  rw [← hW6] at Sn S5 C5 o3 o4 OE hz6 ⊢
  have B06 := (Below.refl W5.heap.size W6)
  have hx6 : ∀ k, k < l.length → W6.cell? ⟨gl, ol + k, none⟩ = some (.int .u32 (wd l k)) := fun k hk => by rw [hW6]; exact (L6.cell (p := ⟨gl, ol + k, none⟩) hgl).trans (hx k hk)
  clear hW6 L6 hx h5
  go_wp2_with fail
  go_loopg [5, 6] (m + 1) (fun gg tv iv wr => ∃ (k : Nat) (A : Option Addr) (ca : Nat), k ≤ m + 1 ∧ m + 1 - k = gg ∧ iv = .int .i64 (k : Int) ∧ tv = .slice A k ca ∧ OW wr W5.heap.size A ca ((l.take k).map fun x => 4294967295 - x) ∧ Below W5.heap.size W6 wr)
  case atStart => exact ⟨0, _, 0, Nat.zero_le _, rfl, rfl, rfl, by simpa using OE, B06⟩
  case round =>
    obtain ⟨k, Ar, ca, hk, rfl, rfl, rfl, Q, BB⟩ := hrel
    by_cases hk0 : k < m + 1
    · have ck := (BB.cell (p := ⟨gl, ol + k, none⟩) (by show gl < W5.heap.size; omega)).trans (hx6 k (by omega))
      have hw := wd_lt hbb k
      have hnw := not_word hw
      have hl1 : ((l.take k).map fun x => 4294967295 - x).length = k := by simp; omega
      have hone := RW.one wr 46 (x := 4294967295 - wd l k) (by omega)
      have hb2 := BB.alloc (by have := BB.size; omega) (.cells #[.int .u32 ((4294967295 - wd l k : Nat) : Int)] 46)
      rw [← hnw] at hone hb2
      clear hnw
      have hs : (l.take (k + 1)).map (fun x => 4294967295 - x) = (l.take k).map (fun x => 4294967295 - x) ++ [4294967295 - wd l k] := by
        rw [take_succ_wd (by omega), List.map_append]; rfl
      have HS := Lib.hid hs
      have HL1 := Lib.hid hl1
      clear hs hl1
      go_wp2_with (at_builtin; refine wp_appW _ rfl _ _ rfl W5.heap.size _ _ _ ((l.take k).map fun x => 4294967295 - x) rfl HL1.out.symm (Q.alloc _) _ _ _ [4294967295 - wd l k] rfl rfl _ hone (by rw [HL1.out]; simp; omega) (by have := BB.size; simp; omega) ?_; intro A2 c2 w2 g1 g2 g3)
      have g4 := hb2.trans g3
      go_roundg (m + 1 - (k + 1))
      case measure => omega
      case rel => exact ⟨k + 1, A2, c2, by omega, rfl, by go_num, rfl, by rw [HS.out]; exact g1, g4⟩
    · obtain rfl : k = m + 1 := by omega
      have hk1 : l.take (m + 1) = l := by rw [← hl, List.take_length]
      rw [hk1] at Q
      have hN := rnorm_any Ar ca (m + 1) (l.map fun x => 4294967295 - x) wr (by rw [List.length_map, hl]) Q.rw
      rw [HV.out] at hN
      clear hx6 hk1 hk0 h OE
      have Sn := Sn.below BB hz5
      have S5 := S5.below BB (by omega)
      have C5 := C5.trans (BB.mono (by omega))
      have o3 := o3.kb BB (fun g' hA => by have := b3 g' hA; omega)
      have o4 := o4.kb BB (fun g' hA => by have := b4 g' hA; omega)
      go_wp2_with fail
      refine hN.mono ?_; rintro e w8 ⟨T, ct, rfl, OT, B8⟩
      clear hN
      have bT : ∀ g', T = some ⟨g', 0, none⟩ → w4.heap.size < g' := fun g' hA => by have := OT.bet g' hA; have := BB.size; omega
      have Sn := Sn.nx B8
      have S5 := S5.nx B8
      have C5 := bt C5 B8
      have o3 := o3.below B8 (Nat.le_refl _)
      have o4 := o4.below B8 (Nat.le_refl _)
      have i1 := Sn.cell 1
      have f1 := Sn.frozen 1
      go_upto_region 9 with fail
      clear i1 f1
      have Sn := Sn.set 1 (.slice T (digs v).length ct)
      have S5 := S5.far (p := ⟨w4.heap.size, 1, none⟩) (by show w.heap.size ≠ w4.heap.size; omega) (.slice T (digs v).length ct)
      have C5 := C5.setCell (p := ⟨w4.heap.size, 1, none⟩) (by show w.heap.size ≤ w4.heap.size; omega) (.slice T (digs v).length ct)
      have o3 := o3.far (p := ⟨w4.heap.size, 1, none⟩) (fun g' hA => by have := b3 g' hA; show g' ≠ w4.heap.size; omega) (.slice T (digs v).length ct)
      have o4 := o4.far (p := ⟨w4.heap.size, 1, none⟩) (fun g' hA => by have := b4 g' hA; show g' ≠ w4.heap.size; omega) (.slice T (digs v).length ct)
      have OT := OT.far (p := ⟨w4.heap.size, 1, none⟩) (fun g' hA => by have := bT g' hA; show g' ≠ w4.heap.size; omega) (.slice T (digs v).length ct)
      obtain ⟨w9, hW9⟩ : ∃ w9, w9 = w8.setCell ⟨w4.heap.size, 1, none⟩ (.slice T (digs v).length ct) := ⟨_, rfl⟩
      rw [← hW9] at Sn S5 C5 OT o3 o4 ⊢
      clear hW9 B8
      have i0 := Sn.cell 0
      have i1 := Sn.cell 1
      have i2 := Sn.cell 2
      have i3 := Sn.cell 3
      have i4 := Sn.cell 4
      have i5 := Sn.cell 5
      have hTn := rturn_int (v : Int) false false (digs v) [1] T D3 none D4 ct d3 0 d4 0 1 w9 (by rw [show ((v : Nat) : Int) = sgn false v by rw [sgn_false], rwq_int false v (fun _ => rfl)]) (by omega) OT.rw o3.rw
      rw [show (-(v : Int) - 1) = sgn true (v + 1) by rw [sgn_true]; omega, rwq_int true (v + 1) (by omega)] at hTn
      dsimp only at hTn
      go_wp2_with fail
      refine hTn.mono ?_; rintro e w10 ⟨T2, ct2, D5, d5, rfl, OT2, OD5, B10⟩
      clear hTn i0 i1 i2 i3 i4 i5 OT
      obtain ⟨d, hd⟩ : ∃ d, Hid (digs (v + 1) = d) := ⟨_, rfl⟩
      rw [hd.out] at OT2 ⊢
      have hzb : w4.heap.size < w9.heap.size := Sn.lt
      have Sn := Sn.nx B10
      have S5 := S5.nx B10
      have C5 := bt C5 B10
      have o4 := o4.below B10 (Nat.le_refl _)
      have hRn := Sn.rc (n := 6)
      go_upto_region 11 with (refine wp_st6 rfl (.tmp 4) (.tmp 38) rfl _ rfl _ _ _ _ _ _ rfl hRn rfl rfl rfl rfl rfl rfl ?_)
      have Sn := hRn.put6 (.bool true) (.slice T2 d.length ct2) (.slice D5 1 d5) (.bool false) (.slice none 0 0) (.slice D4 1 d4)
      have S5 := S5.wr6 (r := w4.heap.size) (by omega) (.bool true) (.slice T2 d.length ct2) (.slice D5 1 d5) (.bool false) (.slice none 0 0) (.slice D4 1 d4)
      have C5 := wr6_below (b := w4.heap.size) C5 (by omega) (.bool true) (.slice T2 d.length ct2) (.slice D5 1 d5) (.bool false) (.slice none 0 0) (.slice D4 1 d4)
      have OT2 := OT2.put6 (b := w4.heap.size) hzb (.bool true) (.slice T2 d.length ct2) (.slice D5 1 d5) (.bool false) (.slice none 0 0) (.slice D4 1 d4)
      have OD5 := OD5.put6 (b := w4.heap.size) hzb (.bool true) (.slice T2 d.length ct2) (.slice D5 1 d5) (.bool false) (.slice none 0 0) (.slice D4 1 d4)
      have o4 := o4.far6 (b := w4.heap.size) (fun g' hA => by have := b4 g' hA; omega) (.bool true) (.slice T2 d.length ct2) (.slice D5 1 d5) (.bool false) (.slice none 0 0) (.slice D4 1 d4)
      obtain ⟨w12, hW12⟩ : ∃ w12, w12 = wr6 w10 w4.heap.size (.bool true) (.slice T2 d.length ct2) (.slice D5 1 d5) (.bool false) (.slice none 0 0) (.slice D4 1 d4) := ⟨_, rfl⟩
      rw [← hW12] at Sn S5 C5 OT2 OD5 o4 ⊢
      clear hW12 B10 hRn
      have hRC := S5.rc (n := 6)
      by_cases h5 : 512 < d.length
      · have n0 := Sn.cell 0
        have n1 := Sn.cell 1
        go_wp2_with (refine wp_st6 rfl (.tmp 2) (.tmp 48) rfl _ rfl _ _ _ _ _ _ rfl hRC rfl rfl rfl rfl rfl rfl ?_)
        have s6 := hRC.put6 (.bool false) (.slice none 0 0) (.slice none 0 0) (.bool false) (.slice none 0 0) (.slice none 0 0)
        have B6 := wr6_below (b := w.heap.size) C5 (Nat.le_refl _) (.bool false) (.slice none 0 0) (.slice none 0 0) (.bool false) (.slice none 0 0) (.slice none 0 0)
        have r0' := s6.cell 0
        have r1' := s6.cell 1
        have r2' := s6.cell 2
        have r3' := s6.cell 3
        have r4' := s6.cell 4
        have r5' := s6.cell 5
        refine bodyPost_ret (v := .tuple #[.agg #[.bool false, .slice none 0 0, .slice none 0 0, .bool false, .slice none 0 0, .slice none 0 0], .int .i64 4]) (by simp [results, r0', r1', r2', r3', r4', r5', go_sem]) rfl ?_
        rw [hd.out]
        exact ⟨fun _ => retNE_nil 4 B6, fun h => absurd h5 (by omega)⟩
      · have n0 := Sn.cell 0
        have n1 := Sn.cell 1
        have n2 := Sn.cell 2
        have n3 := Sn.cell 3
        have n4 := Sn.cell 4
        have n5 := Sn.cell 5
        go_wp2_with (refine wp_st6 rfl (.tmp 2) (.tmp 49) rfl _ rfl _ _ _ _ _ _ rfl hRC rfl rfl rfl rfl rfl rfl ?_)
        clear n0 n1 n2 n3 n4 n5
        have s6 := hRC.put6 (.bool true) (.slice T2 d.length ct2) (.slice D5 1 d5) (.bool false) (.slice none 0 0) (.slice D4 1 d4)
        have B6 := wr6_below (b := w.heap.size) C5 (Nat.le_refl _) (.bool true) (.slice T2 d.length ct2) (.slice D5 1 d5) (.bool false) (.slice none 0 0) (.slice D4 1 d4)
        have OT := OT2.put6 (b := w.heap.size) (by omega) (.bool true) (.slice T2 d.length ct2) (.slice D5 1 d5) (.bool false) (.slice none 0 0) (.slice D4 1 d4)
        have o3 := OD5.put6 (b := w.heap.size) (by omega) (.bool true) (.slice T2 d.length ct2) (.slice D5 1 d5) (.bool false) (.slice none 0 0) (.slice D4 1 d4)
        have o4 := o4.put6 (b := w.heap.size) (by omega) (.bool true) (.slice T2 d.length ct2) (.slice D5 1 d5) (.bool false) (.slice none 0 0) (.slice D4 1 d4)
        have r0' := s6.cell 0
        have r1' := s6.cell 1
        have r2' := s6.cell 2
        have r3' := s6.cell 3
        have r4' := s6.cell 4
        have r5' := s6.cell 5
        refine bodyPost_ret (v := .tuple #[.agg #[.bool true, .slice T2 d.length ct2, .slice D5 1 d5, .bool false, .slice none 0 0, .slice D4 1 d4], .int .i64 0]) (by simp [results, r0', r1', r2', r3', r4', r5', go_sem]) rfl ?_
        rw [hd.out]
        exact ⟨fun h => absurd h h5, fun _ => ⟨_, _, _, _, _, _, _, _, rfl, OT.base_le (by omega), o3.base_le (by omega), OW.nil _ _, o4.base_le (by omega), B6⟩⟩

end Go.Proofs.Ytnlgoedklmjhlaa
namespace Go.Proofs.Ytnlgoedklmjhlaa
open Go.RowKit

theorem rbnum_any (A : Option Addr) (c n : Nat) (l : List Nat) (w : World) (hn : n = l.length) (h : RW w w.heap.size A c l) (h0 : 0 < l.length) (h1 : l.length ≤ 10000) :
    Calls Try.prog 36 #[.slice A n c] w (RetNE w (fitQ ((tcI (32 * l.length) (val l) : Int) : Rat) 0)) := by
  subst hn
  obtain ⟨m, hm⟩ : ∃ m, l.length = m + 1 := ⟨l.length - 1, by omega⟩
  rcases top_sign h.b32 h0 with ⟨hd, hv⟩ | ⟨hd, hv⟩
  · obtain ⟨e, hn⟩ := num_neg h.b32 hv
    rw [e]
    rw [hm] at hd
    have hv1 := map_not_val h.b32
    have e2 : (Wp l.length - val l) % Wp l.length = val (l.map fun x => 4294967295 - x) + 1 := by
      have : 0 < 2 ^ (32 * l.length - 1) := Nat.pow_pos (by omega)
      rw [Nat.mod_eq_of_lt (by omega)]; omega
    rw [e2, hm]
    refine (rbnum_true A c m l w h hm (by omega) hd _ rfl).mono ?_
    rintro e' w' ⟨k1, k2⟩
    by_cases h5 : 512 < (digs (val (l.map fun x => 4294967295 - x) + 1)).length
    · rw [fit_big h5]; exact k1 h5
    · rw [fit_int (fun h => by omega) (by omega)]; exact k2 (by omega)
  · rw [num_pos hv]
    rw [hm] at hd ⊢
    refine (rbnum_false A c m l w h hm (by omega) hd).mono ?_
    rintro e' w' ⟨k1, k2⟩
    by_cases h5 : 512 < (digs (val l)).length
    · rw [fit_big h5]; exact k1 h5
    · rw [fit_int (fun _ => rfl) (by omega)]; exact k2 (by omega)
theorem rbrow_any (X : Int) (s1 s2 : Bool) (a1 b1 : List Nat) (A1 D1 A2 D2 : Option Addr) (c1 d1 c2 d2 n2 m2 n : Nat) (w : World) (h : (⟨s1, a1, b1⟩ : Rw) = rwq ((X : Int) : Rat)) (hn : a1.length ≤ n) (hn1 : 1 ≤ n) (hn2 : n ≤ 10000) (r1 : RW w w.heap.size A1 c1 a1) (r2 : RW w w.heap.size D1 d1 b1) :
    Calls Try.prog 35 #[.agg #[.bool s1, .slice A1 a1.length c1, .slice D1 b1.length d1, .bool s2, .slice A2 n2 c2, .slice D2 m2 d2], .int .i64 (n : Int)] w fun e w' => ∃ g, e = .returned (.slice (some ⟨g, 0, none⟩) n n) ∧ OW w' w.heap.size (some ⟨g, 0, none⟩) n (rowI n X) ∧ Below w.heap.size w w' := by
  have e1 : s1 = decide (X < 0) := congrArg Rw.s h
  by_cases hX : X < 0
  · obtain ⟨v, rfl⟩ : ∃ v : Nat, X = -(v : Int) - 1 := ⟨(-X - 1).toNat, by omega⟩
    rw [decide_eq_true hX] at e1
    subst e1
    exact rbrow_true v s2 a1 b1 _ rfl A1 D1 A2 D2 c1 d1 c2 d2 n2 m2 n w h hn hn1 hn2 r1 r2
  · obtain ⟨v, rfl⟩ : ∃ v : Nat, X = (v : Int) := ⟨X.toNat, by omega⟩
    rw [decide_eq_false hX] at e1
    subst e1
    exact rbrow_false v s2 a1 b1 _ rfl A1 D1 A2 D2 c1 d1 c2 d2 n2 m2 n w h hn hn1 hn2 r1 r2


set_option maxRecDepth 100000 in
set_option maxHeartbeats 16000000 in
theorem rboth_bad (s1 s2 t1 t2 : Bool) (a1 b1 a2 b2 e1 f1 e2 f2 : List Nat) (A1 D1 A2 D2 E1 F1 E2 F2 : Option Addr) (c1 d1 c2 d2 j1 k1 j2 k2 : Nat) (w : World) (p1 : RW w w.heap.size A1 c1 a1) (p2 : RW w w.heap.size D1 d1 b1) (p3 : RW w w.heap.size A2 c2 a2) (p4 : RW w w.heap.size D2 d2 b2) (q1 : RW w w.heap.size E1 j1 e1) (q2 : RW w w.heap.size F1 k1 f1) (q3 : RW w w.heap.size E2 j2 e2) (q4 : RW w w.heap.size F2 k2 f2) (op : Int) (k : Int) (hk : bchkN2 ⟨s1, a1, b1⟩ ⟨s2, a2, b2⟩ ⟨t1, e1, f1⟩ ⟨t2, e2, f2⟩ = k) (hk0 : (k == 0) = false) :
    Calls Try.prog 9 #[.int .i64 op, (.agg #[.bool s1, .slice A1 a1.length c1, .slice D1 b1.length d1, .bool s2, .slice A2 a2.length c2, .slice D2 b2.length d2]), (.agg #[.bool t1, .slice E1 e1.length j1, .slice F1 f1.length k1, .bool t2, .slice E2 e2.length j2, .slice F2 f2.length k2])] w (RetNE w (rw0, rw0, k)) := by
  have kk0 := S3.new w [.bool s1, .slice A1 a1.length c1, .slice D1 b1.length d1, .bool s2, .slice A2 a2.length c2, .slice D2 b2.length d2] [.bool t1, .slice E1 e1.length j1, .slice F1 f1.length k1, .bool t2, .slice E2 e2.length j2, .slice F2 f2.length k2] [.bool false, .slice none 0 0, .slice none 0 0, .bool false, .slice none 0 0, .slice none 0 0] 26 26 26 6
  have LB4 := bal (((w.alloc (.cells #[.bool s1, .slice A1 a1.length c1, .slice D1 b1.length d1, .bool s2, .slice A2 a2.length c2, .slice D2 b2.length d2] 26)).alloc (.cells #[.bool t1, .slice E1 e1.length j1, .slice F1 f1.length k1, .bool t2, .slice E2 e2.length j2, .slice F2 f2.length k2] 26)).alloc (.cells #[.bool false, .slice none 0 0, .slice none 0 0, .bool false, .slice none 0 0, .slice none 0 0] 26)) (.cells #[.bool s1, .slice A1 a1.length c1, .slice D1 b1.length d1, .bool s2, .slice A2 a2.length c2, .slice D2 b2.length d2, .bool t1, .slice E1 e1.length j1, .slice F1 f1.length k1, .bool t2, .slice E2 e2.length j2, .slice F2 f2.length k2] 26)
  have kk1 := kk0.nx LB4
  have SG := SB.new (((w.alloc (.cells #[.bool s1, .slice A1 a1.length c1, .slice D1 b1.length d1, .bool s2, .slice A2 a2.length c2, .slice D2 b2.length d2] 26)).alloc (.cells #[.bool t1, .slice E1 e1.length j1, .slice F1 f1.length k1, .bool t2, .slice E2 e2.length j2, .slice F2 f2.length k2] 26)).alloc (.cells #[.bool false, .slice none 0 0, .slice none 0 0, .bool false, .slice none 0 0, .slice none 0 0] 26)) [.bool s1, .slice A1 a1.length c1, .slice D1 b1.length d1, .bool s2, .slice A2 a2.length c2, .slice D2 b2.length d2, .bool t1, .slice E1 e1.length j1, .slice F1 f1.length k1, .bool t2, .slice E2 e2.length j2, .slice F2 f2.length k2] 26
  have z3 : (((w.alloc (.cells #[.bool s1, .slice A1 a1.length c1, .slice D1 b1.length d1, .bool s2, .slice A2 a2.length c2, .slice D2 b2.length d2] 26)).alloc (.cells #[.bool t1, .slice E1 e1.length j1, .slice F1 f1.length k1, .bool t2, .slice E2 e2.length j2, .slice F2 f2.length k2] 26)).alloc (.cells #[.bool false, .slice none 0 0, .slice none 0 0, .bool false, .slice none 0 0, .slice none 0 0] 26)).heap.size = w.heap.size + 3 := by simp
  rw [z3] at SG
  have hC := fun w' hg h1 h2 h3 h4 g1 g2 g3 g4 => rbcheck2_any (w.heap.size + 3) s1 a1 b1 s2 a2 b2 A1 c1 D1 d1 A2 c2 D2 d2 t1 e1 f1 t2 e2 f2 E1 j1 F1 k1 E2 j2 F2 k2 w' hg h1 h2 h3 h4 g1 g2 g3 g4
  have BW := kk1.2.2.2
  obtain ⟨W, hW⟩ : ∃ W, W = (((w.alloc (.cells #[.bool s1, .slice A1 a1.length c1, .slice D1 b1.length d1, .bool s2, .slice A2 a2.length c2, .slice D2 b2.length d2] 26)).alloc (.cells #[.bool t1, .slice E1 e1.length j1, .slice F1 f1.length k1, .bool t2, .slice E2 e2.length j2, .slice F2 f2.length k2] 26)).alloc (.cells #[.bool false, .slice none 0 0, .slice none 0 0, .bool false, .slice none 0 0, .slice none 0 0] 26)).alloc (.cells #[.bool s1, .slice A1 a1.length c1, .slice D1 b1.length d1, .bool s2, .slice A2 a2.length c2, .slice D2 b2.length d2, .bool t1, .slice E1 e1.length j1, .slice F1 f1.length k1, .bool t2, .slice E2 e2.length j2, .slice F2 f2.length k2] 26) := ⟨_, rfl⟩
  have i0 := kk0.1.cell 0
  have i1 := kk0.1.cell 1
  have i2 := kk0.1.cell 2
  have i3 := kk0.1.cell 3
  have i4 := kk0.1.cell 4
  have i5 := kk0.1.cell 5
  have jj0 := kk0.2.1.cell 0
  have jj1 := kk0.2.1.cell 1
  have jj2 := kk0.2.1.cell 2
  have jj3 := kk0.2.1.cell 3
  have jj4 := kk0.2.1.cell 4
  have jj5 := kk0.2.1.cell 5
  simp only [hk] at hC
  have Hk := Lib.hid hk
  clear hk
  have n0 : (k != 0) = true := by simp [bne, hk0]
  go_enter Try.func9, Try.ntmps9
  go_wp2_with fail
  rw [← hW] at kk1 SG BW ⊢
  clear hW kk0 i0 jj0 i1 jj1 i2 jj2 i3 jj3 i4 jj4 i5 jj5
  refine (hC W SG (st p1 BW) (st p2 BW) (st p3 BW) (st p4 BW) (st q1 BW) (st q2 BW) (st q3 BW) (st q4 BW)).mono ?_; rintro e w5 ⟨rfl, B5⟩
  clear hC
  have kk5 := kk1.nx B5
  have hRC := kk5.2.2.1
  go_wp2_with (refine wp_st6 rfl (.tmp 6) (.tmp 20) rfl _ rfl _ _ _ _ _ _ rfl hRC rfl rfl rfl rfl rfl rfl ?_)
  have s6 := kk5.2.2.1.put6 (.bool false) (.slice none 0 0) (.slice none 0 0) (.bool false) (.slice none 0 0) (.slice none 0 0)
  have B6 := wr6_below (b := w.heap.size + 2) kk5.2.2.2 (by omega) (.bool false) (.slice none 0 0) (.slice none 0 0) (.bool false) (.slice none 0 0) (.slice none 0 0)
  have r0' := s6.cell 0
  have r1' := s6.cell 1
  have r2' := s6.cell 2
  have r3' := s6.cell 3
  have r4' := s6.cell 4
  have r5' := s6.cell 5
  refine bodyPost_ret (v := .tuple #[.agg #[.bool false, .slice none 0 0, .slice none 0 0, .bool false, .slice none 0 0, .slice none 0 0], .int .i64 k]) (by simp [results, r0', r1', r2', r3', r4', r5', go_sem]) rfl ?_
  exact retNE_nil k B6


set_option maxRecDepth 100000 in
set_option maxHeartbeats 16000000 in
theorem rboth_ok_And (s1 s2 t1 t2 : Bool) (a1 b1 a2 b2 e1 f1 e2 f2 : List Nat) (A1 D1 A2 D2 E1 F1 E2 F2 : Option Addr) (c1 d1 c2 d2 j1 k1 j2 k2 : Nat) (w : World) (p1 : RW w w.heap.size A1 c1 a1) (p2 : RW w w.heap.size D1 d1 b1) (p3 : RW w w.heap.size A2 c2 a2) (p4 : RW w w.heap.size D2 d2 b2) (q1 : RW w w.heap.size E1 j1 e1) (q2 : RW w w.heap.size F1 k1 f1) (q3 : RW w w.heap.size E2 j2 e2) (q4 : RW w w.heap.size F2 k2 f2) (X Y : Int) (hX : Hid ((⟨s1, a1, b1⟩ : Rw) = rwq ((X : Int) : Rat))) (hY : Hid ((⟨t1, e1, f1⟩ : Rw) = rwq ((Y : Int) : Rat))) (lx : a1.length ≤ 512) (ly : e1.length ≤ 512) (hk : bchkN2 ⟨s1, a1, b1⟩ ⟨s2, a2, b2⟩ ⟨t1, e1, f1⟩ ⟨t2, e2, f2⟩ = 0) :
    Calls Try.prog 9 #[.int .i64 1, (.agg #[.bool s1, .slice A1 a1.length c1, .slice D1 b1.length d1, .bool s2, .slice A2 a2.length c2, .slice D2 b2.length d2]), (.agg #[.bool t1, .slice E1 e1.length j1, .slice F1 f1.length k1, .bool t2, .slice E2 e2.length j2, .slice F2 f2.length k2])] w (RetNE w (fitQ ((rowOp (· &&& ·) (a1.length + e1.length + 1) X Y : Int) : Rat) 0)) := by
  have kk0 := S3.new w [.bool s1, .slice A1 a1.length c1, .slice D1 b1.length d1, .bool s2, .slice A2 a2.length c2, .slice D2 b2.length d2] [.bool t1, .slice E1 e1.length j1, .slice F1 f1.length k1, .bool t2, .slice E2 e2.length j2, .slice F2 f2.length k2] [.bool false, .slice none 0 0, .slice none 0 0, .bool false, .slice none 0 0, .slice none 0 0] 26 26 26 6
  have LB4 := bal (((w.alloc (.cells #[.bool s1, .slice A1 a1.length c1, .slice D1 b1.length d1, .bool s2, .slice A2 a2.length c2, .slice D2 b2.length d2] 26)).alloc (.cells #[.bool t1, .slice E1 e1.length j1, .slice F1 f1.length k1, .bool t2, .slice E2 e2.length j2, .slice F2 f2.length k2] 26)).alloc (.cells #[.bool false, .slice none 0 0, .slice none 0 0, .bool false, .slice none 0 0, .slice none 0 0] 26)) (.cells #[.bool s1, .slice A1 a1.length c1, .slice D1 b1.length d1, .bool s2, .slice A2 a2.length c2, .slice D2 b2.length d2, .bool t1, .slice E1 e1.length j1, .slice F1 f1.length k1, .bool t2, .slice E2 e2.length j2, .slice F2 f2.length k2] 26)
  have kk1 := kk0.nx LB4
  have SG := SB.new (((w.alloc (.cells #[.bool s1, .slice A1 a1.length c1, .slice D1 b1.length d1, .bool s2, .slice A2 a2.length c2, .slice D2 b2.length d2] 26)).alloc (.cells #[.bool t1, .slice E1 e1.length j1, .slice F1 f1.length k1, .bool t2, .slice E2 e2.length j2, .slice F2 f2.length k2] 26)).alloc (.cells #[.bool false, .slice none 0 0, .slice none 0 0, .bool false, .slice none 0 0, .slice none 0 0] 26)) [.bool s1, .slice A1 a1.length c1, .slice D1 b1.length d1, .bool s2, .slice A2 a2.length c2, .slice D2 b2.length d2, .bool t1, .slice E1 e1.length j1, .slice F1 f1.length k1, .bool t2, .slice E2 e2.length j2, .slice F2 f2.length k2] 26
  have z3 : (((w.alloc (.cells #[.bool s1, .slice A1 a1.length c1, .slice D1 b1.length d1, .bool s2, .slice A2 a2.length c2, .slice D2 b2.length d2] 26)).alloc (.cells #[.bool t1, .slice E1 e1.length j1, .slice F1 f1.length k1, .bool t2, .slice E2 e2.length j2, .slice F2 f2.length k2] 26)).alloc (.cells #[.bool false, .slice none 0 0, .slice none 0 0, .bool false, .slice none 0 0, .slice none 0 0] 26)).heap.size = w.heap.size + 3 := by simp
  rw [z3] at SG
  have hC := fun w' hg h1 h2 h3 h4 g1 g2 g3 g4 => rbcheck2_any (w.heap.size + 3) s1 a1 b1 s2 a2 b2 A1 c1 D1 d1 A2 c2 D2 d2 t1 e1 f1 t2 e2 f2 E1 j1 F1 k1 E2 j2 F2 k2 w' hg h1 h2 h3 h4 g1 g2 g3 g4
  have BW := kk1.2.2.2
  obtain ⟨W, hW⟩ : ∃ W, W = (((w.alloc (.cells #[.bool s1, .slice A1 a1.length c1, .slice D1 b1.length d1, .bool s2, .slice A2 a2.length c2, .slice D2 b2.length d2] 26)).alloc (.cells #[.bool t1, .slice E1 e1.length j1, .slice F1 f1.length k1, .bool t2, .slice E2 e2.length j2, .slice F2 f2.length k2] 26)).alloc (.cells #[.bool false, .slice none 0 0, .slice none 0 0, .bool false, .slice none 0 0, .slice none 0 0] 26)).alloc (.cells #[.bool s1, .slice A1 a1.length c1, .slice D1 b1.length d1, .bool s2, .slice A2 a2.length c2, .slice D2 b2.length d2, .bool t1, .slice E1 e1.length j1, .slice F1 f1.length k1, .bool t2, .slice E2 e2.length j2, .slice F2 f2.length k2] 26) := ⟨_, rfl⟩
  have i0 := kk0.1.cell 0
  have i1 := kk0.1.cell 1
  have i2 := kk0.1.cell 2
  have i3 := kk0.1.cell 3
  have i4 := kk0.1.cell 4
  have i5 := kk0.1.cell 5
  have jj0 := kk0.2.1.cell 0
  have jj1 := kk0.2.1.cell 1
  have jj2 := kk0.2.1.cell 2
  have jj3 := kk0.2.1.cell 3
  have jj4 := kk0.2.1.cell 4
  have jj5 := kk0.2.1.cell 5
  simp only [hk] at hC
  clear hk
  obtain ⟨M, hM⟩ : ∃ M : Nat, Hid (a1.length + e1.length = M) := ⟨_, rfl⟩
  have m1 : a1.length ≤ M := by have := hM.out; omega
  have m2 : e1.length ≤ M := by have := hM.out; omega
  have m3 : M ≤ 1024 := by have := hM.out; omega
  have hmx : (a1.length : Int) + (e1.length : Int) = (M : Int) := by have := hM.out; omega
  have hRX := fun w' h1 h2 => rbrow_any X s1 s2 a1 b1 A1 D1 A2 D2 c1 d1 c2 d2 a2.length b2.length (M + 1) w' hX.out (by omega) (by omega) (by omega) h1 h2
  have hRY := fun w' h1 h2 => rbrow_any Y t1 t2 e1 f1 E1 F1 E2 F2 j1 k1 j2 k2 e2.length f2.length (M + 1) w' hY.out (by omega) (by omega) (by omega) h1 h2
  simp only [Int.natCast_add, Int.cast_ofNat_Int] at hRX hRY
  rw [hM.out]
  go_enter Try.func9, Try.ntmps9
  go_wp2_with fail
  rw [← hW] at kk1 SG BW ⊢
  clear hW kk0 i0 jj0 i1 jj1 i2 jj2 i3 jj3 i4 jj4 i5 jj5
  refine (hC W SG (st p1 BW) (st p2 BW) (st p3 BW) (st p4 BW) (st q1 BW) (st q2 BW) (st q3 BW) (st q4 BW)).mono ?_; rintro e w5 ⟨rfl, B5⟩
  clear hC SG LB4
  have kk5 := kk1.nx B5
  have i1 := kk5.1.cell 1
  have jj1 := kk5.2.1.cell 1
  go_upto_region 5 with fail
  clear i1 jj1 hmx
  have kk5d := kk5.dr
  have kk5s := And.intro (kk5d.1.cell 0) (And.intro (kk5d.1.cell 1) (And.intro (kk5d.1.cell 2) (And.intro (kk5d.1.cell 3) (And.intro (kk5d.1.cell 4) (And.intro (kk5d.1.cell 5) (And.intro (kk5d.2.1.cell 0) (And.intro (kk5d.2.1.cell 1) (And.intro (kk5d.2.1.cell 2) (And.intro (kk5d.2.1.cell 3) (And.intro (kk5d.2.1.cell 4) (And.intro (kk5d.2.1.cell 5) (kk5d))))))))))))
  go_region_held3 (fun w' => w'.cell? ⟨w.heap.size, 0, none⟩ = some (.bool s1) ∧ w'.cell? ⟨w.heap.size, 1, none⟩ = some (.slice A1 a1.length c1) ∧ w'.cell? ⟨w.heap.size, 2, none⟩ = some (.slice D1 b1.length d1) ∧ w'.cell? ⟨w.heap.size, 3, none⟩ = some (.bool s2) ∧ w'.cell? ⟨w.heap.size, 4, none⟩ = some (.slice A2 a2.length c2) ∧ w'.cell? ⟨w.heap.size, 5, none⟩ = some (.slice D2 b2.length d2) ∧ w'.cell? ⟨w.heap.size + 1, 0, none⟩ = some (.bool t1) ∧ w'.cell? ⟨w.heap.size + 1, 1, none⟩ = some (.slice E1 e1.length j1) ∧ w'.cell? ⟨w.heap.size + 1, 2, none⟩ = some (.slice F1 f1.length k1) ∧ w'.cell? ⟨w.heap.size + 1, 3, none⟩ = some (.bool t2) ∧ w'.cell? ⟨w.heap.size + 1, 4, none⟩ = some (.slice E2 e2.length j2) ∧ w'.cell? ⟨w.heap.size + 1, 5, none⟩ = some (.slice F2 f2.length k2) ∧ S3 w w.heap.size [.bool s1, .slice A1 a1.length c1, .slice D1 b1.length d1, .bool s2, .slice A2 a2.length c2, .slice D2 b2.length d2] [.bool t1, .slice E1 e1.length j1, .slice F1 f1.length k1, .bool t2, .slice E2 e2.length j2, .slice F2 f2.length k2] 6 w')
    (first
      | with_reducible exact kk5s
      | (have s1 := (by with_reducible assumption : _ ∧ _ ∧ _ ∧ _ ∧ _ ∧ _ ∧ _ ∧ _ ∧ _ ∧ _ ∧ _ ∧ _ ∧ S3 w w.heap.size [.bool s1, .slice A1 a1.length c1, .slice D1 b1.length d1, .bool s2, .slice A2 a2.length c2, .slice D2 b2.length d2] [.bool t1, .slice E1 e1.length j1, .slice F1 f1.length k1, .bool t2, .slice E2 e2.length j2, .slice F2 f2.length k2] 6 _).2.2.2.2.2.2.2.2.2.2.2.2.nx BX; have q0_ := s1.1.cell 0; have q1_ := s1.1.cell 1; have q2_ := s1.1.cell 2; have q3_ := s1.1.cell 3; have q4_ := s1.1.cell 4; have q5_ := s1.1.cell 5; have q6_ := s1.2.1.cell 0; have q7_ := s1.2.1.cell 1; have q8_ := s1.2.1.cell 2; have q9_ := s1.2.1.cell 3; have q10_ := s1.2.1.cell 4; have q11_ := s1.2.1.cell 5; with_reducible exact ⟨q0_, q1_, q2_, q3_, q4_, q5_, q6_, q7_, q8_, q9_, q10_, q11_, s1⟩))
    (first
      | (go_at_call_of 35 (Value.agg #[.bool s1, .slice A1 a1.length c1, .slice D1 b1.length d1, .bool s2, .slice A2 a2.length c2, .slice D2 b2.length d2]); have hh := (by with_reducible assumption : _ ∧ _ ∧ _ ∧ _ ∧ _ ∧ _ ∧ _ ∧ _ ∧ _ ∧ _ ∧ _ ∧ _ ∧ S3 w w.heap.size [.bool s1, .slice A1 a1.length c1, .slice D1 b1.length d1, .bool s2, .slice A2 a2.length c2, .slice D2 b2.length d2] [.bool t1, .slice E1 e1.length j1, .slice F1 f1.length k1, .bool t2, .slice E2 e2.length j2, .slice F2 f2.length k2] 6 _).2.2.2.2.2.2.2.2.2.2.2.2; refine (hRX _ (st p1 hh.2.2.2) (st p2 hh.2.2.2)).mono ?_; rintro e w21 ⟨g1, rfl, O1, BX⟩; have B21 := BX; have sz21 := hh.2.2.1.2)
      | (go_at_call_of 35 (Value.agg #[.bool t1, .slice E1 e1.length j1, .slice F1 f1.length k1, .bool t2, .slice E2 e2.length j2, .slice F2 f2.length k2]); have hh := (by with_reducible assumption : _ ∧ _ ∧ _ ∧ _ ∧ _ ∧ _ ∧ _ ∧ _ ∧ _ ∧ _ ∧ _ ∧ _ ∧ S3 w w.heap.size [.bool s1, .slice A1 a1.length c1, .slice D1 b1.length d1, .bool s2, .slice A2 a2.length c2, .slice D2 b2.length d2] [.bool t1, .slice E1 e1.length j1, .slice F1 f1.length k1, .bool t2, .slice E2 e2.length j2, .slice F2 f2.length k2] 6 _).2.2.2.2.2.2.2.2.2.2.2.2; refine (hRY _ (st q1 hh.2.2.2) (st q2 hh.2.2.2)).mono ?_; rintro e w22 ⟨g2, rfl, O2, BX⟩; have B22 := BX; have kk := hh.nx BX))
  have hz22 := B21.size
  have P1 := (O1.below B22 (Nat.le_refl _)).base_le (B := w.heap.size + 3) (by omega)
  have P2 := O2.base_le (B := w.heap.size + 3) (by omega)
  have hne : g1 ≠ g2 := by have := O1.lt.2; have := O2.lt.1; omega
  have RR := kk.2.2.1
  have BB := kk.2.2.2
  clear O1 O2 B21 B22 kk hRX hRY p1 p2 p3 p4 q1 q2 q3 q4 kk1 kk5 B5 BW z3 kk5d kk5s
  obtain ⟨rx, hrx⟩ : ∃ rx, Hid (rowI (M + 1) X = rx) := ⟨_, rfl⟩
  obtain ⟨ry, hry⟩ : ∃ ry, Hid (rowI (M + 1) Y = ry) := ⟨_, rfl⟩
  rw [hrx.out] at P1
  rw [hry.out] at P2
  have hlx : rx.length = M + 1 := by rw [← hrx.out]; exact rowI_len _ _
  have hly : ry.length = M + 1 := by rw [← hry.out]; exact rowI_len _ _
  have HLX := Lib.hid hlx
  have HLY := Lib.hid hly
  have bx := P1.b32
  have by_ := P2.b32
  have hzl : Hid ((List.zipWith (· &&& ·) rx ry).length = M + 1) := by show _ = _; rw [zip_len (by rw [hlx, hly])]; exact hlx
  clear hlx hly
  have hb22 : g1 < w22.heap.size ∧ g2 < w22.heap.size ∧ w.heap.size + 2 < w22.heap.size := ⟨P1.lt.2, P2.lt.2, RR.2⟩
  have L6 := bal w22 (.cells #[] 46)
  have OE := OW.empty w22
  have hz6 : w22.heap.size < (w22.alloc (.cells #[] 46)).heap.size := by simp
  have P1 := P1.alloc (.cells #[] 46)
  have P2 := P2.alloc (.cells #[] 46)
  have RR := RR.nx L6
  have BB := bt BB L6
  have hg1 := P1.lt.1
  have hg2 := P2.lt.1
  have hr22 := RR.2
  obtain ⟨W6, hW6⟩ : ∃ W6, W6 = w22.alloc (.cells #[] 46) := ⟨_, rfl⟩
  go_upto_region 7 with fail
  rw [← hW6] at RR BB P1 P2 OE hz6 hr22 ⊢
  have hg1' : g1 < W6.heap.size := P1.lt.2
  have hg2' : g2 < W6.heap.size := P2.lt.2
  have OE := OE.base_le (B := w22.heap.size) (Nat.le_refl _)
  have B06 := Below.refl w22.heap.size W6
  clear hW6 L6
  go_wp2_with fail
  go_loopg [12, 13] (M + 1) (fun gg tv iv wr => ∃ (k : Nat) (A : Option Addr) (ca : Nat), k ≤ M + 1 ∧ M + 1 - k = gg ∧ iv = .int .i64 (k : Int) ∧ tv = .slice A k ca ∧ OW wr w22.heap.size A ca ((List.zipWith (· &&& ·) rx ry).take k) ∧ Below w22.heap.size W6 wr)
  case atStart => exact ⟨0, _, 0, Nat.zero_le _, rfl, rfl, rfl, by simpa using OE, B06⟩
  case round =>
    obtain ⟨k, Ar, ca, hk, rfl, rfl, rfl, Q, BL⟩ := hrel
    by_cases hk0 : k < M + 1
    · have cx := (BL.cell (p := ⟨g1, k, none⟩) hb22.1).trans (P1.cell (k := k) (by have := HLX.out; omega))
      have cy := (BL.cell (p := ⟨g2, k, none⟩) hb22.2.1).trans (P2.cell (k := k) (by have := HLY.out; omega))
      have hxl := wd_lt bx k
      have hyl := wd_lt by_ k
      have hgl := (bitOp_and (wd rx k) (wd ry k) hxl hyl).1
      go_wp2_with fail
      have hl1 : ((List.zipWith (· &&& ·) rx ry).take k).length = k := by rw [List.length_take, hzl.out]; omega
      have HL1 := Lib.hid hl1
      have hs : (List.zipWith (· &&& ·) rx ry).take (k + 1) = (List.zipWith (· &&& ·) rx ry).take k ++ [wd rx k &&& wd ry k] := by
        rw [take_succ_wd (by rw [hzl.out]; omega), zip_wd (by rw [HLX.out, HLY.out]) (by rw [HLX.out]; omega)]
      have HS := Lib.hid hs
      have hgv : bits BinOp.and IntKind.u32 ((wd rx k : Nat) : Int) ((wd ry k : Nat) : Int) = ((wd rx k &&& wd ry k : Nat) : Int) := u32_and_nat _ _ hxl hyl
      have hone := RW.one wr 46 hgl
      rw [← hgv] at hone
      clear hgv
      have hsz : W6.heap.size ≤ wr.heap.size := BL.size
      have hcx : wr.drew.cell? ⟨g1, k, none⟩ = some (.int .u32 (wd rx k : Nat)) := cx
      have hcy : wr.drew.cell? ⟨g2, k, none⟩ = some (.int .u32 (wd ry k : Nat)) := cy
      have hcx2 : (wr.alloc (.cells #[.int .u32 (bits BinOp.and IntKind.u32 ((wd rx k : Nat) : Int) ((wd ry k : Nat) : Int))] 46)).drew.cell? ⟨g1, k, none⟩ = some (.int .u32 (wd rx k : Nat)) := ((bal wr (.cells #[.int .u32 (bits BinOp.and IntKind.u32 ((wd rx k : Nat) : Int) ((wd ry k : Nat) : Int))] 46)).cell (p := ⟨g1, k, none⟩) (by show g1 < wr.heap.size; omega)).trans cx
      have hcy2 : (wr.alloc (.cells #[.int .u32 (bits BinOp.and IntKind.u32 ((wd rx k : Nat) : Int) ((wd ry k : Nat) : Int))] 46)).drew.cell? ⟨g2, k, none⟩ = some (.int .u32 (wd ry k : Nat)) := ((bal wr (.cells #[.int .u32 (bits BinOp.and IntKind.u32 ((wd rx k : Nat) : Int) ((wd ry k : Nat) : Int))] 46)).cell (p := ⟨g2, k, none⟩) (by show g2 < wr.heap.size; omega)).trans cy
      have hk' : (0 : Int) ≤ (k : Int) := by omega
      have hkM : (k : Int) < (M : Int) + 1 := by omega
      clear hs hl1
      go_region_held3 (fun w' => w'.cell? ⟨g1, k, none⟩ = some (.int .u32 (wd rx k : Nat)) ∧ w'.cell? ⟨g2, k, none⟩ = some (.int .u32 (wd ry k : Nat)))
        (first
          | with_reducible exact ⟨hcx, hcy⟩
          | with_reducible exact ⟨hcx2, hcy2⟩
          | with_reducible exact ⟨(g3.cell (p := ⟨g1, k, none⟩) hb22.1).trans hcx2, (g3.cell (p := ⟨g2, k, none⟩) hb22.2.1).trans hcy2⟩)
        ((refine step_appW _ (by rfl) _ _ (by rfl) w22.heap.size _ _ _ ((List.zipWith (· &&& ·) rx ry).take k) (by rfl) HL1.out.symm ((Q.alloc _).drewN 1) _ _ _ [wd rx k &&& wd ry k] (by rfl) (by rfl) _ (hone.drewN 1) (by rw [HL1.out]; simp; omega) (by simp; omega) ?_; intro A2 c2 w2 g1_ g3))
      have g4 := (BL.alloc (by omega) (.cells #[.int .u32 (bits BinOp.and IntKind.u32 ((wd rx k : Nat) : Int) ((wd ry k : Nat) : Int))] 46)).trans ((Below.drew (Below.refl _ _)).trans g3)
      clear hcx hcy hcx2 hcy2 hone cx cy
      go_wp2_with fail
      go_roundg (M + 1 - (k + 1))
      case measure => omega
      case rel => exact ⟨k + 1, A2, c2, by omega, rfl, by go_num, by rw [show min k (min rx.length ry.length) = k by have := HLX.out; have := HLY.out; omega], by rw [HS.out]; exact g1_, g4⟩
    · obtain rfl : k = M + 1 := by omega
      have ho : (List.zipWith (· &&& ·) rx ry).take (M + 1) = List.zipWith (· &&& ·) rx ry := List.take_of_length_le (by rw [hzl.out]; exact Nat.le_refl _)
      rw [ho] at Q
      have hN := rbnum_any Ar ca (M + 1) _ wr hzl.out.symm Q.rw (by rw [hzl.out]; omega) (by rw [hzl.out]; omega)
      have hval : Hid (tcI (32 * (List.zipWith (· &&& ·) rx ry).length) (val (List.zipWith (· &&& ·) rx ry)) = rowOp (· &&& ·) (M + 1) X Y) := by
        show _ = _
        rw [hzl.out, ← hrx.out, ← hry.out]; rfl
      rw [hval.out] at hN
      clear ho hval hk0
      obtain ⟨R, hR⟩ : ∃ R, Hid (fitQ ((rowOp (· &&& ·) (M + 1) X Y : Int) : Rat) 0 = R) := ⟨_, rfl⟩
      rw [hR.out] at hN
      obtain ⟨fr, fi, fk⟩ := R
      have RR2 := RR.sb.below BL (by omega)
      have BB2 := BB.trans (BL.mono (by omega))
      go_wp2_with fail
      refine hN.mono ?_; rintro e w5 ⟨H1, h1, I1, i1, H2, h2, I2, i2, rfl, O1, O2, O3, O4, B5⟩
      dsimp only at O1 O2 O3 O4
      have hRC := (RR2.nx B5).rc (n := 6)
      have BB5 := bt BB2 B5
      have hzw := RR2.2
      go_wp2_with (refine wp_st6 rfl (.tmp 6) (.tmp 87) rfl _ rfl _ _ _ _ _ _ rfl hRC rfl rfl rfl rfl rfl rfl ?_)
      have s6 := hRC.put6 (.bool fr.s) (.slice H1 fr.a.length h1) (.slice I1 fr.b.length i1) (.bool fi.s) (.slice H2 fi.a.length h2) (.slice I2 fi.b.length i2)
      have B6 := wr6_below (b := w.heap.size + 2) BB5 (by omega) (.bool fr.s) (.slice H1 fr.a.length h1) (.slice I1 fr.b.length i1) (.bool fi.s) (.slice H2 fi.a.length h2) (.slice I2 fi.b.length i2)
      have Oa := O1.put6 (b := w.heap.size + 2) hzw (.bool fr.s) (.slice H1 fr.a.length h1) (.slice I1 fr.b.length i1) (.bool fi.s) (.slice H2 fi.a.length h2) (.slice I2 fi.b.length i2)
      have Ob := O2.put6 (b := w.heap.size + 2) hzw (.bool fr.s) (.slice H1 fr.a.length h1) (.slice I1 fr.b.length i1) (.bool fi.s) (.slice H2 fi.a.length h2) (.slice I2 fi.b.length i2)
      have Oc := O3.put6 (b := w.heap.size + 2) hzw (.bool fr.s) (.slice H1 fr.a.length h1) (.slice I1 fr.b.length i1) (.bool fi.s) (.slice H2 fi.a.length h2) (.slice I2 fi.b.length i2)
      have Od := O4.put6 (b := w.heap.size + 2) hzw (.bool fr.s) (.slice H1 fr.a.length h1) (.slice I1 fr.b.length i1) (.bool fi.s) (.slice H2 fi.a.length h2) (.slice I2 fi.b.length i2)
      have r0' := s6.cell 0
      have r1' := s6.cell 1
      have r2' := s6.cell 2
      have r3' := s6.cell 3
      have r4' := s6.cell 4
      have r5' := s6.cell 5
      refine bodyPost_ret (v := .tuple #[.agg #[.bool fr.s, .slice H1 fr.a.length h1, .slice I1 fr.b.length i1, .bool fi.s, .slice H2 fi.a.length h2, .slice I2 fi.b.length i2], .int .i64 fk]) (by simp [results, r0', r1', r2', r3', r4', r5', go_sem]) rfl ?_
      rw [hR.out]
      exact ⟨H1, h1, I1, i1, H2, h2, I2, i2, rfl, Oa.base_le (by omega), Ob.base_le (by omega), Oc.base_le (by omega), Od.base_le (by omega), B6⟩


set_option maxRecDepth 100000 in
set_option maxHeartbeats 16000000 in
theorem rboth_ok_Or (s1 s2 t1 t2 : Bool) (a1 b1 a2 b2 e1 f1 e2 f2 : List Nat) (A1 D1 A2 D2 E1 F1 E2 F2 : Option Addr) (c1 d1 c2 d2 j1 k1 j2 k2 : Nat) (w : World) (p1 : RW w w.heap.size A1 c1 a1) (p2 : RW w w.heap.size D1 d1 b1) (p3 : RW w w.heap.size A2 c2 a2) (p4 : RW w w.heap.size D2 d2 b2) (q1 : RW w w.heap.size E1 j1 e1) (q2 : RW w w.heap.size F1 k1 f1) (q3 : RW w w.heap.size E2 j2 e2) (q4 : RW w w.heap.size F2 k2 f2) (X Y : Int) (hX : Hid ((⟨s1, a1, b1⟩ : Rw) = rwq ((X : Int) : Rat))) (hY : Hid ((⟨t1, e1, f1⟩ : Rw) = rwq ((Y : Int) : Rat))) (lx : a1.length ≤ 512) (ly : e1.length ≤ 512) (hk : bchkN2 ⟨s1, a1, b1⟩ ⟨s2, a2, b2⟩ ⟨t1, e1, f1⟩ ⟨t2, e2, f2⟩ = 0) :
    Calls Try.prog 9 #[.int .i64 2, (.agg #[.bool s1, .slice A1 a1.length c1, .slice D1 b1.length d1, .bool s2, .slice A2 a2.length c2, .slice D2 b2.length d2]), (.agg #[.bool t1, .slice E1 e1.length j1, .slice F1 f1.length k1, .bool t2, .slice E2 e2.length j2, .slice F2 f2.length k2])] w (RetNE w (fitQ ((rowOp (· ||| ·) (a1.length + e1.length + 1) X Y : Int) : Rat) 0)) := by
  have kk0 := S3.new w [.bool s1, .slice A1 a1.length c1, .slice D1 b1.length d1, .bool s2, .slice A2 a2.length c2, .slice D2 b2.length d2] [.bool t1, .slice E1 e1.length j1, .slice F1 f1.length k1, .bool t2, .slice E2 e2.length j2, .slice F2 f2.length k2] [.bool false, .slice none 0 0, .slice none 0 0, .bool false, .slice none 0 0, .slice none 0 0] 26 26 26 6
  have LB4 := bal (((w.alloc (.cells #[.bool s1, .slice A1 a1.length c1, .slice D1 b1.length d1, .bool s2, .slice A2 a2.length c2, .slice D2 b2.length d2] 26)).alloc (.cells #[.bool t1, .slice E1 e1.length j1, .slice F1 f1.length k1, .bool t2, .slice E2 e2.length j2, .slice F2 f2.length k2] 26)).alloc (.cells #[.bool false, .slice none 0 0, .slice none 0 0, .bool false, .slice none 0 0, .slice none 0 0] 26)) (.cells #[.bool s1, .slice A1 a1.length c1, .slice D1 b1.length d1, .bool s2, .slice A2 a2.length c2, .slice D2 b2.length d2, .bool t1, .slice E1 e1.length j1, .slice F1 f1.length k1, .bool t2, .slice E2 e2.length j2, .slice F2 f2.length k2] 26)
  have kk1 := kk0.nx LB4
  have SG := SB.new (((w.alloc (.cells #[.bool s1, .slice A1 a1.length c1, .slice D1 b1.length d1, .bool s2, .slice A2 a2.length c2, .slice D2 b2.length d2] 26)).alloc (.cells #[.bool t1, .slice E1 e1.length j1, .slice F1 f1.length k1, .bool t2, .slice E2 e2.length j2, .slice F2 f2.length k2] 26)).alloc (.cells #[.bool false, .slice none 0 0, .slice none 0 0, .bool false, .slice none 0 0, .slice none 0 0] 26)) [.bool s1, .slice A1 a1.length c1, .slice D1 b1.length d1, .bool s2, .slice A2 a2.length c2, .slice D2 b2.length d2, .bool t1, .slice E1 e1.length j1, .slice F1 f1.length k1, .bool t2, .slice E2 e2.length j2, .slice F2 f2.length k2] 26
  have z3 : (((w.alloc (.cells #[.bool s1, .slice A1 a1.length c1, .slice D1 b1.length d1, .bool s2, .slice A2 a2.length c2, .slice D2 b2.length d2] 26)).alloc (.cells #[.bool t1, .slice E1 e1.length j1, .slice F1 f1.length k1, .bool t2, .slice E2 e2.length j2, .slice F2 f2.length k2] 26)).alloc (.cells #[.bool false, .slice none 0 0, .slice none 0 0, .bool false, .slice none 0 0, .slice none 0 0] 26)).heap.size = w.heap.size + 3 := by simp
  rw [z3] at SG
  have hC := fun w' hg h1 h2 h3 h4 g1 g2 g3 g4 => rbcheck2_any (w.heap.size + 3) s1 a1 b1 s2 a2 b2 A1 c1 D1 d1 A2 c2 D2 d2 t1 e1 f1 t2 e2 f2 E1 j1 F1 k1 E2 j2 F2 k2 w' hg h1 h2 h3 h4 g1 g2 g3 g4
  have BW := kk1.2.2.2
  obtain ⟨W, hW⟩ : ∃ W, W = (((w.alloc (.cells #[.bool s1, .slice A1 a1.length c1, .slice D1 b1.length d1, .bool s2, .slice A2 a2.length c2, .slice D2 b2.length d2] 26)).alloc (.cells #[.bool t1, .slice E1 e1.length j1, .slice F1 f1.length k1, .bool t2, .slice E2 e2.length j2, .slice F2 f2.length k2] 26)).alloc (.cells #[.bool false, .slice none 0 0, .slice none 0 0, .bool false, .slice none 0 0, .slice none 0 0] 26)).alloc (.cells #[.bool s1, .slice A1 a1.length c1, .slice D1 b1.length d1, .bool s2, .slice A2 a2.length c2, .slice D2 b2.length d2, .bool t1, .slice E1 e1.length j1, .slice F1 f1.length k1, .bool t2, .slice E2 e2.length j2, .slice F2 f2.length k2] 26) := ⟨_, rfl⟩
  have i0 := kk0.1.cell 0
  have i1 := kk0.1.cell 1
  have i2 := kk0.1.cell 2
  have i3 := kk0.1.cell 3
  have i4 := kk0.1.cell 4
  have i5 := kk0.1.cell 5
  have jj0 := kk0.2.1.cell 0
  have jj1 := kk0.2.1.cell 1
  have jj2 := kk0.2.1.cell 2
  have jj3 := kk0.2.1.cell 3
  have jj4 := kk0.2.1.cell 4
  have jj5 := kk0.2.1.cell 5
  simp only [hk] at hC
  clear hk
  obtain ⟨M, hM⟩ : ∃ M : Nat, Hid (a1.length + e1.length = M) := ⟨_, rfl⟩
  have m1 : a1.length ≤ M := by have := hM.out; omega
  have m2 : e1.length ≤ M := by have := hM.out; omega
  have m3 : M ≤ 1024 := by have := hM.out; omega
  have hmx : (a1.length : Int) + (e1.length : Int) = (M : Int) := by have := hM.out; omega
  have hRX := fun w' h1 h2 => rbrow_any X s1 s2 a1 b1 A1 D1 A2 D2 c1 d1 c2 d2 a2.length b2.length (M + 1) w' hX.out (by omega) (by omega) (by omega) h1 h2
  have hRY := fun w' h1 h2 => rbrow_any Y t1 t2 e1 f1 E1 F1 E2 F2 j1 k1 j2 k2 e2.length f2.length (M + 1) w' hY.out (by omega) (by omega) (by omega) h1 h2
  simp only [Int.natCast_add, Int.cast_ofNat_Int] at hRX hRY
  rw [hM.out]
  go_enter Try.func9, Try.ntmps9
  go_wp2_with fail
  rw [← hW] at kk1 SG BW ⊢
  clear hW kk0 i0 jj0 i1 jj1 i2 jj2 i3 jj3 i4 jj4 i5 jj5
  refine (hC W SG (st p1 BW) (st p2 BW) (st p3 BW) (st p4 BW) (st q1 BW) (st q2 BW) (st q3 BW) (st q4 BW)).mono ?_; rintro e w5 ⟨rfl, B5⟩
  clear hC SG LB4
  have kk5 := kk1.nx B5
  have i1 := kk5.1.cell 1
  have jj1 := kk5.2.1.cell 1
  go_upto_region 5 with fail
  clear i1 jj1 hmx
  have kk5d := kk5.dr
  have kk5s := And.intro (kk5d.1.cell 0) (And.intro (kk5d.1.cell 1) (And.intro (kk5d.1.cell 2) (And.intro (kk5d.1.cell 3) (And.intro (kk5d.1.cell 4) (And.intro (kk5d.1.cell 5) (And.intro (kk5d.2.1.cell 0) (And.intro (kk5d.2.1.cell 1) (And.intro (kk5d.2.1.cell 2) (And.intro (kk5d.2.1.cell 3) (And.intro (kk5d.2.1.cell 4) (And.intro (kk5d.2.1.cell 5) (kk5d))))))))))))
  go_region_held3 (fun w' => w'.cell? ⟨w.heap.size, 0, none⟩ = some (.bool s1) ∧ w'.cell? ⟨w.heap.size, 1, none⟩ = some (.slice A1 a1.length c1) ∧ w'.cell? ⟨w.heap.size, 2, none⟩ = some (.slice D1 b1.length d1) ∧ w'.cell? ⟨w.heap.size, 3, none⟩ = some (.bool s2) ∧ w'.cell? ⟨w.heap.size, 4, none⟩ = some (.slice A2 a2.length c2) ∧ w'.cell? ⟨w.heap.size, 5, none⟩ = some (.slice D2 b2.length d2) ∧ w'.cell? ⟨w.heap.size + 1, 0, none⟩ = some (.bool t1) ∧ w'.cell? ⟨w.heap.size + 1, 1, none⟩ = some (.slice E1 e1.length j1) ∧ w'.cell? ⟨w.heap.size + 1, 2, none⟩ = some (.slice F1 f1.length k1) ∧ w'.cell? ⟨w.heap.size + 1, 3, none⟩ = some (.bool t2) ∧ w'.cell? ⟨w.heap.size + 1, 4, none⟩ = some (.slice E2 e2.length j2) ∧ w'.cell? ⟨w.heap.size + 1, 5, none⟩ = some (.slice F2 f2.length k2) ∧ S3 w w.heap.size [.bool s1, .slice A1 a1.length c1, .slice D1 b1.length d1, .bool s2, .slice A2 a2.length c2, .slice D2 b2.length d2] [.bool t1, .slice E1 e1.length j1, .slice F1 f1.length k1, .bool t2, .slice E2 e2.length j2, .slice F2 f2.length k2] 6 w')
    (first
      | with_reducible exact kk5s
      | (have s1 := (by with_reducible assumption : _ ∧ _ ∧ _ ∧ _ ∧ _ ∧ _ ∧ _ ∧ _ ∧ _ ∧ _ ∧ _ ∧ _ ∧ S3 w w.heap.size [.bool s1, .slice A1 a1.length c1, .slice D1 b1.length d1, .bool s2, .slice A2 a2.length c2, .slice D2 b2.length d2] [.bool t1, .slice E1 e1.length j1, .slice F1 f1.length k1, .bool t2, .slice E2 e2.length j2, .slice F2 f2.length k2] 6 _).2.2.2.2.2.2.2.2.2.2.2.2.nx BX; have q0_ := s1.1.cell 0; have q1_ := s1.1.cell 1; have q2_ := s1.1.cell 2; have q3_ := s1.1.cell 3; have q4_ := s1.1.cell 4; have q5_ := s1.1.cell 5; have q6_ := s1.2.1.cell 0; have q7_ := s1.2.1.cell 1; have q8_ := s1.2.1.cell 2; have q9_ := s1.2.1.cell 3; have q10_ := s1.2.1.cell 4; have q11_ := s1.2.1.cell 5; with_reducible exact ⟨q0_, q1_, q2_, q3_, q4_, q5_, q6_, q7_, q8_, q9_, q10_, q11_, s1⟩))
    (first
      | (go_at_call_of 35 (Value.agg #[.bool s1, .slice A1 a1.length c1, .slice D1 b1.length d1, .bool s2, .slice A2 a2.length c2, .slice D2 b2.length d2]); have hh := (by with_reducible assumption : _ ∧ _ ∧ _ ∧ _ ∧ _ ∧ _ ∧ _ ∧ _ ∧ _ ∧ _ ∧ _ ∧ _ ∧ S3 w w.heap.size [.bool s1, .slice A1 a1.length c1, .slice D1 b1.length d1, .bool s2, .slice A2 a2.length c2, .slice D2 b2.length d2] [.bool t1, .slice E1 e1.length j1, .slice F1 f1.length k1, .bool t2, .slice E2 e2.length j2, .slice F2 f2.length k2] 6 _).2.2.2.2.2.2.2.2.2.2.2.2; refine (hRX _ (st p1 hh.2.2.2) (st p2 hh.2.2.2)).mono ?_; rintro e w21 ⟨g1, rfl, O1, BX⟩; have B21 := BX; have sz21 := hh.2.2.1.2)
      | (go_at_call_of 35 (Value.agg #[.bool t1, .slice E1 e1.length j1, .slice F1 f1.length k1, .bool t2, .slice E2 e2.length j2, .slice F2 f2.length k2]); have hh := (by with_reducible assumption : _ ∧ _ ∧ _ ∧ _ ∧ _ ∧ _ ∧ _ ∧ _ ∧ _ ∧ _ ∧ _ ∧ _ ∧ S3 w w.heap.size [.bool s1, .slice A1 a1.length c1, .slice D1 b1.length d1, .bool s2, .slice A2 a2.length c2, .slice D2 b2.length d2] [.bool t1, .slice E1 e1.length j1, .slice F1 f1.length k1, .bool t2, .slice E2 e2.length j2, .slice F2 f2.length k2] 6 _).2.2.2.2.2.2.2.2.2.2.2.2; refine (hRY _ (st q1 hh.2.2.2) (st q2 hh.2.2.2)).mono ?_; rintro e w22 ⟨g2, rfl, O2, BX⟩; have B22 := BX; have kk := hh.nx BX))
  have hz22 := B21.size
  have P1 := (O1.below B22 (Nat.le_refl _)).base_le (B := w.heap.size + 3) (by omega)
  have P2 := O2.base_le (B := w.heap.size + 3) (by omega)
  have hne : g1 ≠ g2 := by have := O1.lt.2; have := O2.lt.1; omega
  have RR := kk.2.2.1
  have BB := kk.2.2.2
  clear O1 O2 B21 B22 kk hRX hRY p1 p2 p3 p4 q1 q2 q3 q4 kk1 kk5 B5 BW z3 kk5d kk5s
  obtain ⟨rx, hrx⟩ : ∃ rx, Hid (rowI (M + 1) X = rx) := ⟨_, rfl⟩
  obtain ⟨ry, hry⟩ : ∃ ry, Hid (rowI (M + 1) Y = ry) := ⟨_, rfl⟩
  rw [hrx.out] at P1
  rw [hry.out] at P2
  have hlx : rx.length = M + 1 := by rw [← hrx.out]; exact rowI_len _ _
  have hly : ry.length = M + 1 := by rw [← hry.out]; exact rowI_len _ _
  have HLX := Lib.hid hlx
  have HLY := Lib.hid hly
  have bx := P1.b32
  have by_ := P2.b32
  have hzl : Hid ((List.zipWith (· ||| ·) rx ry).length = M + 1) := by show _ = _; rw [zip_len (by rw [hlx, hly])]; exact hlx
  clear hlx hly
  have hb22 : g1 < w22.heap.size ∧ g2 < w22.heap.size ∧ w.heap.size + 2 < w22.heap.size := ⟨P1.lt.2, P2.lt.2, RR.2⟩
  have L6 := bal w22 (.cells #[] 46)
  have OE := OW.empty w22
  have hz6 : w22.heap.size < (w22.alloc (.cells #[] 46)).heap.size := by simp
  have P1 := P1.alloc (.cells #[] 46)
  have P2 := P2.alloc (.cells #[] 46)
  have RR := RR.nx L6
  have BB := bt BB L6
  have hg1 := P1.lt.1
  have hg2 := P2.lt.1
  have hr22 := RR.2
  obtain ⟨W6, hW6⟩ : ∃ W6, W6 = w22.alloc (.cells #[] 46) := ⟨_, rfl⟩
  go_upto_region 7 with fail
  rw [← hW6] at RR BB P1 P2 OE hz6 hr22 ⊢
  have hg1' : g1 < W6.heap.size := P1.lt.2
  have hg2' : g2 < W6.heap.size := P2.lt.2
  have OE := OE.base_le (B := w22.heap.size) (Nat.le_refl _)
  have B06 := Below.refl w22.heap.size W6
  clear hW6 L6
  go_wp2_with fail
  go_loopg [12, 13] (M + 1) (fun gg tv iv wr => ∃ (k : Nat) (A : Option Addr) (ca : Nat), k ≤ M + 1 ∧ M + 1 - k = gg ∧ iv = .int .i64 (k : Int) ∧ tv = .slice A k ca ∧ OW wr w22.heap.size A ca ((List.zipWith (· ||| ·) rx ry).take k) ∧ Below w22.heap.size W6 wr)
  case atStart => exact ⟨0, _, 0, Nat.zero_le _, rfl, rfl, rfl, by simpa using OE, B06⟩
  case round =>
    obtain ⟨k, Ar, ca, hk, rfl, rfl, rfl, Q, BL⟩ := hrel
    by_cases hk0 : k < M + 1
    · have cx := (BL.cell (p := ⟨g1, k, none⟩) hb22.1).trans (P1.cell (k := k) (by have := HLX.out; omega))
      have cy := (BL.cell (p := ⟨g2, k, none⟩) hb22.2.1).trans (P2.cell (k := k) (by have := HLY.out; omega))
      have hxl := wd_lt bx k
      have hyl := wd_lt by_ k
      have hgl := (bitOp_or (wd rx k) (wd ry k) hxl hyl).1
      go_wp2_with fail
      have hl1 : ((List.zipWith (· ||| ·) rx ry).take k).length = k := by rw [List.length_take, hzl.out]; omega
      have HL1 := Lib.hid hl1
      have hs : (List.zipWith (· ||| ·) rx ry).take (k + 1) = (List.zipWith (· ||| ·) rx ry).take k ++ [wd rx k ||| wd ry k] := by
        rw [take_succ_wd (by rw [hzl.out]; omega), zip_wd (by rw [HLX.out, HLY.out]) (by rw [HLX.out]; omega)]
      have HS := Lib.hid hs
      have hgv : bits BinOp.or IntKind.u32 ((wd rx k : Nat) : Int) ((wd ry k : Nat) : Int) = ((wd rx k ||| wd ry k : Nat) : Int) := u32_or_nat _ _ hxl hyl
      have hone := RW.one wr 46 hgl
      rw [← hgv] at hone
      clear hgv
      have hsz : W6.heap.size ≤ wr.heap.size := BL.size
      have hcx : wr.drew.cell? ⟨g1, k, none⟩ = some (.int .u32 (wd rx k : Nat)) := cx
      have hcy : wr.drew.cell? ⟨g2, k, none⟩ = some (.int .u32 (wd ry k : Nat)) := cy
      have hcx2 : (wr.alloc (.cells #[.int .u32 (bits BinOp.or IntKind.u32 ((wd rx k : Nat) : Int) ((wd ry k : Nat) : Int))] 46)).drew.cell? ⟨g1, k, none⟩ = some (.int .u32 (wd rx k : Nat)) := ((bal wr (.cells #[.int .u32 (bits BinOp.or IntKind.u32 ((wd rx k : Nat) : Int) ((wd ry k : Nat) : Int))] 46)).cell (p := ⟨g1, k, none⟩) (by show g1 < wr.heap.size; omega)).trans cx
      have hcy2 : (wr.alloc (.cells #[.int .u32 (bits BinOp.or IntKind.u32 ((wd rx k : Nat) : Int) ((wd ry k : Nat) : Int))] 46)).drew.cell? ⟨g2, k, none⟩ = some (.int .u32 (wd ry k : Nat)) := ((bal wr (.cells #[.int .u32 (bits BinOp.or IntKind.u32 ((wd rx k : Nat) : Int) ((wd ry k : Nat) : Int))] 46)).cell (p := ⟨g2, k, none⟩) (by show g2 < wr.heap.size; omega)).trans cy
      have hk' : (0 : Int) ≤ (k : Int) := by omega
      have hkM : (k : Int) < (M : Int) + 1 := by omega
      clear hs hl1
      go_region_held3 (fun w' => w'.cell? ⟨g1, k, none⟩ = some (.int .u32 (wd rx k : Nat)) ∧ w'.cell? ⟨g2, k, none⟩ = some (.int .u32 (wd ry k : Nat)))
        (first
          | with_reducible exact ⟨hcx, hcy⟩
          | with_reducible exact ⟨hcx2, hcy2⟩
          | with_reducible exact ⟨(g3.cell (p := ⟨g1, k, none⟩) hb22.1).trans hcx2, (g3.cell (p := ⟨g2, k, none⟩) hb22.2.1).trans hcy2⟩)
        ((refine step_appW _ (by rfl) _ _ (by rfl) w22.heap.size _ _ _ ((List.zipWith (· ||| ·) rx ry).take k) (by rfl) HL1.out.symm ((Q.alloc _).drewN 1) _ _ _ [wd rx k ||| wd ry k] (by rfl) (by rfl) _ (hone.drewN 1) (by rw [HL1.out]; simp; omega) (by simp; omega) ?_; intro A2 c2 w2 g1_ g3))
      have g4 := (BL.alloc (by omega) (.cells #[.int .u32 (bits BinOp.or IntKind.u32 ((wd rx k : Nat) : Int) ((wd ry k : Nat) : Int))] 46)).trans ((Below.drew (Below.refl _ _)).trans g3)
      clear hcx hcy hcx2 hcy2 hone cx cy
      go_wp2_with fail
      go_roundg (M + 1 - (k + 1))
      case measure => omega
      case rel => exact ⟨k + 1, A2, c2, by omega, rfl, by go_num, by rw [show min k (min rx.length ry.length) = k by have := HLX.out; have := HLY.out; omega], by rw [HS.out]; exact g1_, g4⟩
    · obtain rfl : k = M + 1 := by omega
      have ho : (List.zipWith (· ||| ·) rx ry).take (M + 1) = List.zipWith (· ||| ·) rx ry := List.take_of_length_le (by rw [hzl.out]; exact Nat.le_refl _)
      rw [ho] at Q
      have hN := rbnum_any Ar ca (M + 1) _ wr hzl.out.symm Q.rw (by rw [hzl.out]; omega) (by rw [hzl.out]; omega)
      have hval : Hid (tcI (32 * (List.zipWith (· ||| ·) rx ry).length) (val (List.zipWith (· ||| ·) rx ry)) = rowOp (· ||| ·) (M + 1) X Y) := by
        show _ = _
        rw [hzl.out, ← hrx.out, ← hry.out]; rfl
      rw [hval.out] at hN
      clear ho hval hk0
      obtain ⟨R, hR⟩ : ∃ R, Hid (fitQ ((rowOp (· ||| ·) (M + 1) X Y : Int) : Rat) 0 = R) := ⟨_, rfl⟩
      rw [hR.out] at hN
      obtain ⟨fr, fi, fk⟩ := R
      have RR2 := RR.sb.below BL (by omega)
      have BB2 := BB.trans (BL.mono (by omega))
      go_wp2_with fail
      refine hN.mono ?_; rintro e w5 ⟨H1, h1, I1, i1, H2, h2, I2, i2, rfl, O1, O2, O3, O4, B5⟩
      dsimp only at O1 O2 O3 O4
      have hRC := (RR2.nx B5).rc (n := 6)
      have BB5 := bt BB2 B5
      have hzw := RR2.2
      go_wp2_with (refine wp_st6 rfl (.tmp 6) (.tmp 87) rfl _ rfl _ _ _ _ _ _ rfl hRC rfl rfl rfl rfl rfl rfl ?_)
      have s6 := hRC.put6 (.bool fr.s) (.slice H1 fr.a.length h1) (.slice I1 fr.b.length i1) (.bool fi.s) (.slice H2 fi.a.length h2) (.slice I2 fi.b.length i2)
      have B6 := wr6_below (b := w.heap.size + 2) BB5 (by omega) (.bool fr.s) (.slice H1 fr.a.length h1) (.slice I1 fr.b.length i1) (.bool fi.s) (.slice H2 fi.a.length h2) (.slice I2 fi.b.length i2)
      have Oa := O1.put6 (b := w.heap.size + 2) hzw (.bool fr.s) (.slice H1 fr.a.length h1) (.slice I1 fr.b.length i1) (.bool fi.s) (.slice H2 fi.a.length h2) (.slice I2 fi.b.length i2)
      have Ob := O2.put6 (b := w.heap.size + 2) hzw (.bool fr.s) (.slice H1 fr.a.length h1) (.slice I1 fr.b.length i1) (.bool fi.s) (.slice H2 fi.a.length h2) (.slice I2 fi.b.length i2)
      have Oc := O3.put6 (b := w.heap.size + 2) hzw (.bool fr.s) (.slice H1 fr.a.length h1) (.slice I1 fr.b.length i1) (.bool fi.s) (.slice H2 fi.a.length h2) (.slice I2 fi.b.length i2)
      have Od := O4.put6 (b := w.heap.size + 2) hzw (.bool fr.s) (.slice H1 fr.a.length h1) (.slice I1 fr.b.length i1) (.bool fi.s) (.slice H2 fi.a.length h2) (.slice I2 fi.b.length i2)
      have r0' := s6.cell 0
      have r1' := s6.cell 1
      have r2' := s6.cell 2
      have r3' := s6.cell 3
      have r4' := s6.cell 4
      have r5' := s6.cell 5
      refine bodyPost_ret (v := .tuple #[.agg #[.bool fr.s, .slice H1 fr.a.length h1, .slice I1 fr.b.length i1, .bool fi.s, .slice H2 fi.a.length h2, .slice I2 fi.b.length i2], .int .i64 fk]) (by simp [results, r0', r1', r2', r3', r4', r5', go_sem]) rfl ?_
      rw [hR.out]
      exact ⟨H1, h1, I1, i1, H2, h2, I2, i2, rfl, Oa.base_le (by omega), Ob.base_le (by omega), Oc.base_le (by omega), Od.base_le (by omega), B6⟩


set_option maxRecDepth 100000 in
set_option maxHeartbeats 16000000 in
theorem rboth_ok_Xor (s1 s2 t1 t2 : Bool) (a1 b1 a2 b2 e1 f1 e2 f2 : List Nat) (A1 D1 A2 D2 E1 F1 E2 F2 : Option Addr) (c1 d1 c2 d2 j1 k1 j2 k2 : Nat) (w : World) (p1 : RW w w.heap.size A1 c1 a1) (p2 : RW w w.heap.size D1 d1 b1) (p3 : RW w w.heap.size A2 c2 a2) (p4 : RW w w.heap.size D2 d2 b2) (q1 : RW w w.heap.size E1 j1 e1) (q2 : RW w w.heap.size F1 k1 f1) (q3 : RW w w.heap.size E2 j2 e2) (q4 : RW w w.heap.size F2 k2 f2) (X Y : Int) (hX : Hid ((⟨s1, a1, b1⟩ : Rw) = rwq ((X : Int) : Rat))) (hY : Hid ((⟨t1, e1, f1⟩ : Rw) = rwq ((Y : Int) : Rat))) (lx : a1.length ≤ 512) (ly : e1.length ≤ 512) (hk : bchkN2 ⟨s1, a1, b1⟩ ⟨s2, a2, b2⟩ ⟨t1, e1, f1⟩ ⟨t2, e2, f2⟩ = 0) :
    Calls Try.prog 9 #[.int .i64 3, (.agg #[.bool s1, .slice A1 a1.length c1, .slice D1 b1.length d1, .bool s2, .slice A2 a2.length c2, .slice D2 b2.length d2]), (.agg #[.bool t1, .slice E1 e1.length j1, .slice F1 f1.length k1, .bool t2, .slice E2 e2.length j2, .slice F2 f2.length k2])] w (RetNE w (fitQ ((rowOp (· ^^^ ·) (a1.length + e1.length + 1) X Y : Int) : Rat) 0)) := by
  have kk0 := S3.new w [.bool s1, .slice A1 a1.length c1, .slice D1 b1.length d1, .bool s2, .slice A2 a2.length c2, .slice D2 b2.length d2] [.bool t1, .slice E1 e1.length j1, .slice F1 f1.length k1, .bool t2, .slice E2 e2.length j2, .slice F2 f2.length k2] [.bool false, .slice none 0 0, .slice none 0 0, .bool false, .slice none 0 0, .slice none 0 0] 26 26 26 6
  have LB4 := bal (((w.alloc (.cells #[.bool s1, .slice A1 a1.length c1, .slice D1 b1.length d1, .bool s2, .slice A2 a2.length c2, .slice D2 b2.length d2] 26)).alloc (.cells #[.bool t1, .slice E1 e1.length j1, .slice F1 f1.length k1, .bool t2, .slice E2 e2.length j2, .slice F2 f2.length k2] 26)).alloc (.cells #[.bool false, .slice none 0 0, .slice none 0 0, .bool false, .slice none 0 0, .slice none 0 0] 26)) (.cells #[.bool s1, .slice A1 a1.length c1, .slice D1 b1.length d1, .bool s2, .slice A2 a2.length c2, .slice D2 b2.length d2, .bool t1, .slice E1 e1.length j1, .slice F1 f1.length k1, .bool t2, .slice E2 e2.length j2, .slice F2 f2.length k2] 26)
  have kk1 := kk0.nx LB4
  have SG := SB.new (((w.alloc (.cells #[.bool s1, .slice A1 a1.length c1, .slice D1 b1.length d1, .bool s2, .slice A2 a2.length c2, .slice D2 b2.length d2] 26)).alloc (.cells #[.bool t1, .slice E1 e1.length j1, .slice F1 f1.length k1, .bool t2, .slice E2 e2.length j2, .slice F2 f2.length k2] 26)).alloc (.cells #[.bool false, .slice none 0 0, .slice none 0 0, .bool false, .slice none 0 0, .slice none 0 0] 26)) [.bool s1, .slice A1 a1.length c1, .slice D1 b1.length d1, .bool s2, .slice A2 a2.length c2, .slice D2 b2.length d2, .bool t1, .slice E1 e1.length j1, .slice F1 f1.length k1, .bool t2, .slice E2 e2.length j2, .slice F2 f2.length k2] 26
  have z3 : (((w.alloc (.cells #[.bool s1, .slice A1 a1.length c1, .slice D1 b1.length d1, .bool s2, .slice A2 a2.length c2, .slice D2 b2.length d2] 26)).alloc (.cells #[.bool t1, .slice E1 e1.length j1, .slice F1 f1.length k1, .bool t2, .slice E2 e2.length j2, .slice F2 f2.length k2] 26)).alloc (.cells #[.bool false, .slice none 0 0, .slice none 0 0, .bool false, .slice none 0 0, .slice none 0 0] 26)).heap.size = w.heap.size + 3 := by simp
  rw [z3] at SG
  have hC := fun w' hg h1 h2 h3 h4 g1 g2 g3 g4 => rbcheck2_any (w.heap.size + 3) s1 a1 b1 s2 a2 b2 A1 c1 D1 d1 A2 c2 D2 d2 t1 e1 f1 t2 e2 f2 E1 j1 F1 k1 E2 j2 F2 k2 w' hg h1 h2 h3 h4 g1 g2 g3 g4
  have BW := kk1.2.2.2
  obtain ⟨W, hW⟩ : ∃ W, W = (((w.alloc (.cells #[.bool s1, .slice A1 a1.length c1, .slice D1 b1.length d1, .bool s2, .slice A2 a2.length c2, .slice D2 b2.length d2] 26)).alloc (.cells #[.bool t1, .slice E1 e1.length j1, .slice F1 f1.length k1, .bool t2, .slice E2 e2.length j2, .slice F2 f2.length k2] 26)).alloc (.cells #[.bool false, .slice none 0 0, .slice none 0 0, .bool false, .slice none 0 0, .slice none 0 0] 26)).alloc (.cells #[.bool s1, .slice A1 a1.length c1, .slice D1 b1.length d1, .bool s2, .slice A2 a2.length c2, .slice D2 b2.length d2, .bool t1, .slice E1 e1.length j1, .slice F1 f1.length k1, .bool t2, .slice E2 e2.length j2, .slice F2 f2.length k2] 26) := ⟨_, rfl⟩
  have i0 := kk0.1.cell 0
  have i1 := kk0.1.cell 1
  have i2 := kk0.1.cell 2
  have i3 := kk0.1.cell 3
  have i4 := kk0.1.cell 4
  have i5 := kk0.1.cell 5
  have jj0 := kk0.2.1.cell 0
  have jj1 := kk0.2.1.cell 1
  have jj2 := kk0.2.1.cell 2
  have jj3 := kk0.2.1.cell 3
  have jj4 := kk0.2.1.cell 4
  have jj5 := kk0.2.1.cell 5
  simp only [hk] at hC
  clear hk
  obtain ⟨M, hM⟩ : ∃ M : Nat, Hid (a1.length + e1.length = M) := ⟨_, rfl⟩
  have m1 : a1.length ≤ M := by have := hM.out; omega
  have m2 : e1.length ≤ M := by have := hM.out; omega
  have m3 : M ≤ 1024 := by have := hM.out; omega
  have hmx : (a1.length : Int) + (e1.length : Int) = (M : Int) := by have := hM.out; omega
  have hRX := fun w' h1 h2 => rbrow_any X s1 s2 a1 b1 A1 D1 A2 D2 c1 d1 c2 d2 a2.length b2.length (M + 1) w' hX.out (by omega) (by omega) (by omega) h1 h2
  have hRY := fun w' h1 h2 => rbrow_any Y t1 t2 e1 f1 E1 F1 E2 F2 j1 k1 j2 k2 e2.length f2.length (M + 1) w' hY.out (by omega) (by omega) (by omega) h1 h2
  simp only [Int.natCast_add, Int.cast_ofNat_Int] at hRX hRY
  rw [hM.out]
  go_enter Try.func9, Try.ntmps9
  go_wp2_with fail
  rw [← hW] at kk1 SG BW ⊢
  clear hW kk0 i0 jj0 i1 jj1 i2 jj2 i3 jj3 i4 jj4 i5 jj5
  refine (hC W SG (st p1 BW) (st p2 BW) (st p3 BW) (st p4 BW) (st q1 BW) (st q2 BW) (st q3 BW) (st q4 BW)).mono ?_; rintro e w5 ⟨rfl, B5⟩
  clear hC SG LB4
  have kk5 := kk1.nx B5
  have i1 := kk5.1.cell 1
  have jj1 := kk5.2.1.cell 1
  go_upto_region 5 with fail
  clear i1 jj1 hmx
  have kk5d := kk5.dr
  have kk5s := And.intro (kk5d.1.cell 0) (And.intro (kk5d.1.cell 1) (And.intro (kk5d.1.cell 2) (And.intro (kk5d.1.cell 3) (And.intro (kk5d.1.cell 4) (And.intro (kk5d.1.cell 5) (And.intro (kk5d.2.1.cell 0) (And.intro (kk5d.2.1.cell 1) (And.intro (kk5d.2.1.cell 2) (And.intro (kk5d.2.1.cell 3) (And.intro (kk5d.2.1.cell 4) (And.intro (kk5d.2.1.cell 5) (kk5d))))))))))))
  go_region_held3 (fun w' => w'.cell? ⟨w.heap.size, 0, none⟩ = some (.bool s1) ∧ w'.cell? ⟨w.heap.size, 1, none⟩ = some (.slice A1 a1.length c1) ∧ w'.cell? ⟨w.heap.size, 2, none⟩ = some (.slice D1 b1.length d1) ∧ w'.cell? ⟨w.heap.size, 3, none⟩ = some (.bool s2) ∧ w'.cell? ⟨w.heap.size, 4, none⟩ = some (.slice A2 a2.length c2) ∧ w'.cell? ⟨w.heap.size, 5, none⟩ = some (.slice D2 b2.length d2) ∧ w'.cell? ⟨w.heap.size + 1, 0, none⟩ = some (.bool t1) ∧ w'.cell? ⟨w.heap.size + 1, 1, none⟩ = some (.slice E1 e1.length j1) ∧ w'.cell? ⟨w.heap.size + 1, 2, none⟩ = some (.slice F1 f1.length k1) ∧ w'.cell? ⟨w.heap.size + 1, 3, none⟩ = some (.bool t2) ∧ w'.cell? ⟨w.heap.size + 1, 4, none⟩ = some (.slice E2 e2.length j2) ∧ w'.cell? ⟨w.heap.size + 1, 5, none⟩ = some (.slice F2 f2.length k2) ∧ S3 w w.heap.size [.bool s1, .slice A1 a1.length c1, .slice D1 b1.length d1, .bool s2, .slice A2 a2.length c2, .slice D2 b2.length d2] [.bool t1, .slice E1 e1.length j1, .slice F1 f1.length k1, .bool t2, .slice E2 e2.length j2, .slice F2 f2.length k2] 6 w')
    (first
      | with_reducible exact kk5s
      | (have s1 := (by with_reducible assumption : _ ∧ _ ∧ _ ∧ _ ∧ _ ∧ _ ∧ _ ∧ _ ∧ _ ∧ _ ∧ _ ∧ _ ∧ S3 w w.heap.size [.bool s1, .slice A1 a1.length c1, .slice D1 b1.length d1, .bool s2, .slice A2 a2.length c2, .slice D2 b2.length d2] [.bool t1, .slice E1 e1.length j1, .slice F1 f1.length k1, .bool t2, .slice E2 e2.length j2, .slice F2 f2.length k2] 6 _).2.2.2.2.2.2.2.2.2.2.2.2.nx BX; have q0_ := s1.1.cell 0; have q1_ := s1.1.cell 1; have q2_ := s1.1.cell 2; have q3_ := s1.1.cell 3; have q4_ := s1.1.cell 4; have q5_ := s1.1.cell 5; have q6_ := s1.2.1.cell 0; have q7_ := s1.2.1.cell 1; have q8_ := s1.2.1.cell 2; have q9_ := s1.2.1.cell 3; have q10_ := s1.2.1.cell 4; have q11_ := s1.2.1.cell 5; with_reducible exact ⟨q0_, q1_, q2_, q3_, q4_, q5_, q6_, q7_, q8_, q9_, q10_, q11_, s1⟩))
    (first
      | (go_at_call_of 35 (Value.agg #[.bool s1, .slice A1 a1.length c1, .slice D1 b1.length d1, .bool s2, .slice A2 a2.length c2, .slice D2 b2.length d2]); have hh := (by with_reducible assumption : _ ∧ _ ∧ _ ∧ _ ∧ _ ∧ _ ∧ _ ∧ _ ∧ _ ∧ _ ∧ _ ∧ _ ∧ S3 w w.heap.size [.bool s1, .slice A1 a1.length c1, .slice D1 b1.length d1, .bool s2, .slice A2 a2.length c2, .slice D2 b2.length d2] [.bool t1, .slice E1 e1.length j1, .slice F1 f1.length k1, .bool t2, .slice E2 e2.length j2, .slice F2 f2.length k2] 6 _).2.2.2.2.2.2.2.2.2.2.2.2; refine (hRX _ (st p1 hh.2.2.2) (st p2 hh.2.2.2)).mono ?_; rintro e w21 ⟨g1, rfl, O1, BX⟩; have B21 := BX; have sz21 := hh.2.2.1.2)
      | (go_at_call_of 35 (Value.agg #[.bool t1, .slice E1 e1.length j1, .slice F1 f1.length k1, .bool t2, .slice E2 e2.length j2, .slice F2 f2.length k2]); have hh := (by with_reducible assumption : _ ∧ _ ∧ _ ∧ _ ∧ _ ∧ _ ∧ _ ∧ _ ∧ _ ∧ _ ∧ _ ∧ _ ∧ S3 w w.heap.size [.bool s1, .slice A1 a1.length c1, .slice D1 b1.length d1, .bool s2, .slice A2 a2.length c2, .slice D2 b2.length d2] [.bool t1, .slice E1 e1.length j1, .slice F1 f1.length k1, .bool t2, .slice E2 e2.length j2, .slice F2 f2.length k2] 6 _).2.2.2.2.2.2.2.2.2.2.2.2; refine (hRY _ (st q1 hh.2.2.2) (st q2 hh.2.2.2)).mono ?_; rintro e w22 ⟨g2, rfl, O2, BX⟩; have B22 := BX; have kk := hh.nx BX))
  have hz22 := B21.size
  have P1 := (O1.below B22 (Nat.le_refl _)).base_le (B := w.heap.size + 3) (by omega)
  have P2 := O2.base_le (B := w.heap.size + 3) (by omega)
  have hne : g1 ≠ g2 := by have := O1.lt.2; have := O2.lt.1; omega
  have RR := kk.2.2.1
  have BB := kk.2.2.2
  clear O1 O2 B21 B22 kk hRX hRY p1 p2 p3 p4 q1 q2 q3 q4 kk1 kk5 B5 BW z3 kk5d kk5s
  obtain ⟨rx, hrx⟩ : ∃ rx, Hid (rowI (M + 1) X = rx) := ⟨_, rfl⟩
  obtain ⟨ry, hry⟩ : ∃ ry, Hid (rowI (M + 1) Y = ry) := ⟨_, rfl⟩
  rw [hrx.out] at P1
  rw [hry.out] at P2
  have hlx : rx.length = M + 1 := by rw [← hrx.out]; exact rowI_len _ _
  have hly : ry.length = M + 1 := by rw [← hry.out]; exact rowI_len _ _
  have HLX := Lib.hid hlx
  have HLY := Lib.hid hly
  have bx := P1.b32
  have by_ := P2.b32
  have hzl : Hid ((List.zipWith (· ^^^ ·) rx ry).length = M + 1) := by show _ = _; rw [zip_len (by rw [hlx, hly])]; exact hlx
  clear hlx hly
  have hb22 : g1 < w22.heap.size ∧ g2 < w22.heap.size ∧ w.heap.size + 2 < w22.heap.size := ⟨P1.lt.2, P2.lt.2, RR.2⟩
  have L6 := bal w22 (.cells #[] 46)
  have OE := OW.empty w22
  have hz6 : w22.heap.size < (w22.alloc (.cells #[] 46)).heap.size := by simp
  have P1 := P1.alloc (.cells #[] 46)
  have P2 := P2.alloc (.cells #[] 46)
  have RR := RR.nx L6
  have BB := bt BB L6
  have hg1 := P1.lt.1
  have hg2 := P2.lt.1
  have hr22 := RR.2
  obtain ⟨W6, hW6⟩ : ∃ W6, W6 = w22.alloc (.cells #[] 46) := ⟨_, rfl⟩
  go_upto_region 7 with fail
  rw [← hW6] at RR BB P1 P2 OE hz6 hr22 ⊢
  have hg1' : g1 < W6.heap.size := P1.lt.2
  have hg2' : g2 < W6.heap.size := P2.lt.2
  have OE := OE.base_le (B := w22.heap.size) (Nat.le_refl _)
  have B06 := Below.refl w22.heap.size W6
  clear hW6 L6
  go_wp2_with fail
  go_loopg [12, 13] (M + 1) (fun gg tv iv wr => ∃ (k : Nat) (A : Option Addr) (ca : Nat), k ≤ M + 1 ∧ M + 1 - k = gg ∧ iv = .int .i64 (k : Int) ∧ tv = .slice A k ca ∧ OW wr w22.heap.size A ca ((List.zipWith (· ^^^ ·) rx ry).take k) ∧ Below w22.heap.size W6 wr)
  case atStart => exact ⟨0, _, 0, Nat.zero_le _, rfl, rfl, rfl, by simpa using OE, B06⟩
  case round =>
    obtain ⟨k, Ar, ca, hk, rfl, rfl, rfl, Q, BL⟩ := hrel
    by_cases hk0 : k < M + 1
    · have cx := (BL.cell (p := ⟨g1, k, none⟩) hb22.1).trans (P1.cell (k := k) (by have := HLX.out; omega))
      have cy := (BL.cell (p := ⟨g2, k, none⟩) hb22.2.1).trans (P2.cell (k := k) (by have := HLY.out; omega))
      have hxl := wd_lt bx k
      have hyl := wd_lt by_ k
      have hgl := (bitOp_xor (wd rx k) (wd ry k) hxl hyl).1
      go_wp2_with fail
      have hl1 : ((List.zipWith (· ^^^ ·) rx ry).take k).length = k := by rw [List.length_take, hzl.out]; omega
      have HL1 := Lib.hid hl1
      have hs : (List.zipWith (· ^^^ ·) rx ry).take (k + 1) = (List.zipWith (· ^^^ ·) rx ry).take k ++ [wd rx k ^^^ wd ry k] := by
        rw [take_succ_wd (by rw [hzl.out]; omega), zip_wd (by rw [HLX.out, HLY.out]) (by rw [HLX.out]; omega)]
      have HS := Lib.hid hs
      have hgv : bits BinOp.xor IntKind.u32 ((wd rx k : Nat) : Int) ((wd ry k : Nat) : Int) = ((wd rx k ^^^ wd ry k : Nat) : Int) := u32_xor_nat _ _ hxl hyl
      have hone := RW.one wr 46 hgl
      rw [← hgv] at hone
      clear hgv
      have hsz : W6.heap.size ≤ wr.heap.size := BL.size
      have hcx : wr.drew.cell? ⟨g1, k, none⟩ = some (.int .u32 (wd rx k : Nat)) := cx
      have hcy : wr.drew.cell? ⟨g2, k, none⟩ = some (.int .u32 (wd ry k : Nat)) := cy
      have hcx2 : (wr.alloc (.cells #[.int .u32 (bits BinOp.xor IntKind.u32 ((wd rx k : Nat) : Int) ((wd ry k : Nat) : Int))] 46)).drew.cell? ⟨g1, k, none⟩ = some (.int .u32 (wd rx k : Nat)) := ((bal wr (.cells #[.int .u32 (bits BinOp.xor IntKind.u32 ((wd rx k : Nat) : Int) ((wd ry k : Nat) : Int))] 46)).cell (p := ⟨g1, k, none⟩) (by show g1 < wr.heap.size; omega)).trans cx
      have hcy2 : (wr.alloc (.cells #[.int .u32 (bits BinOp.xor IntKind.u32 ((wd rx k : Nat) : Int) ((wd ry k : Nat) : Int))] 46)).drew.cell? ⟨g2, k, none⟩ = some (.int .u32 (wd ry k : Nat)) := ((bal wr (.cells #[.int .u32 (bits BinOp.xor IntKind.u32 ((wd rx k : Nat) : Int) ((wd ry k : Nat) : Int))] 46)).cell (p := ⟨g2, k, none⟩) (by show g2 < wr.heap.size; omega)).trans cy
      have hk' : (0 : Int) ≤ (k : Int) := by omega
      have hkM : (k : Int) < (M : Int) + 1 := by omega
      clear hs hl1
      go_region_held3 (fun w' => w'.cell? ⟨g1, k, none⟩ = some (.int .u32 (wd rx k : Nat)) ∧ w'.cell? ⟨g2, k, none⟩ = some (.int .u32 (wd ry k : Nat)))
        (first
          | with_reducible exact ⟨hcx, hcy⟩
          | with_reducible exact ⟨hcx2, hcy2⟩
          | with_reducible exact ⟨(g3.cell (p := ⟨g1, k, none⟩) hb22.1).trans hcx2, (g3.cell (p := ⟨g2, k, none⟩) hb22.2.1).trans hcy2⟩)
        ((refine step_appW _ (by rfl) _ _ (by rfl) w22.heap.size _ _ _ ((List.zipWith (· ^^^ ·) rx ry).take k) (by rfl) HL1.out.symm ((Q.alloc _).drewN 1) _ _ _ [wd rx k ^^^ wd ry k] (by rfl) (by rfl) _ (hone.drewN 1) (by rw [HL1.out]; simp; omega) (by simp; omega) ?_; intro A2 c2 w2 g1_ g3))
      have g4 := (BL.alloc (by omega) (.cells #[.int .u32 (bits BinOp.xor IntKind.u32 ((wd rx k : Nat) : Int) ((wd ry k : Nat) : Int))] 46)).trans ((Below.drew (Below.refl _ _)).trans g3)
      clear hcx hcy hcx2 hcy2 hone cx cy
      go_wp2_with fail
      go_roundg (M + 1 - (k + 1))
      case measure => omega
      case rel => exact ⟨k + 1, A2, c2, by omega, rfl, by go_num, by rw [show min k (min rx.length ry.length) = k by have := HLX.out; have := HLY.out; omega], by rw [HS.out]; exact g1_, g4⟩
    · obtain rfl : k = M + 1 := by omega
      have ho : (List.zipWith (· ^^^ ·) rx ry).take (M + 1) = List.zipWith (· ^^^ ·) rx ry := List.take_of_length_le (by rw [hzl.out]; exact Nat.le_refl _)
      rw [ho] at Q
      have hN := rbnum_any Ar ca (M + 1) _ wr hzl.out.symm Q.rw (by rw [hzl.out]; omega) (by rw [hzl.out]; omega)
      have hval : Hid (tcI (32 * (List.zipWith (· ^^^ ·) rx ry).length) (val (List.zipWith (· ^^^ ·) rx ry)) = rowOp (· ^^^ ·) (M + 1) X Y) := by
        show _ = _
        rw [hzl.out, ← hrx.out, ← hry.out]; rfl
      rw [hval.out] at hN
      clear ho hval hk0
      obtain ⟨R, hR⟩ : ∃ R, Hid (fitQ ((rowOp (· ^^^ ·) (M + 1) X Y : Int) : Rat) 0 = R) := ⟨_, rfl⟩
      rw [hR.out] at hN
      obtain ⟨fr, fi, fk⟩ := R
      have RR2 := RR.sb.below BL (by omega)
      have BB2 := BB.trans (BL.mono (by omega))
      go_wp2_with fail
      refine hN.mono ?_; rintro e w5 ⟨H1, h1, I1, i1, H2, h2, I2, i2, rfl, O1, O2, O3, O4, B5⟩
      dsimp only at O1 O2 O3 O4
      have hRC := (RR2.nx B5).rc (n := 6)
      have BB5 := bt BB2 B5
      have hzw := RR2.2
      go_wp2_with (refine wp_st6 rfl (.tmp 6) (.tmp 87) rfl _ rfl _ _ _ _ _ _ rfl hRC rfl rfl rfl rfl rfl rfl ?_)
      have s6 := hRC.put6 (.bool fr.s) (.slice H1 fr.a.length h1) (.slice I1 fr.b.length i1) (.bool fi.s) (.slice H2 fi.a.length h2) (.slice I2 fi.b.length i2)
      have B6 := wr6_below (b := w.heap.size + 2) BB5 (by omega) (.bool fr.s) (.slice H1 fr.a.length h1) (.slice I1 fr.b.length i1) (.bool fi.s) (.slice H2 fi.a.length h2) (.slice I2 fi.b.length i2)
      have Oa := O1.put6 (b := w.heap.size + 2) hzw (.bool fr.s) (.slice H1 fr.a.length h1) (.slice I1 fr.b.length i1) (.bool fi.s) (.slice H2 fi.a.length h2) (.slice I2 fi.b.length i2)
      have Ob := O2.put6 (b := w.heap.size + 2) hzw (.bool fr.s) (.slice H1 fr.a.length h1) (.slice I1 fr.b.length i1) (.bool fi.s) (.slice H2 fi.a.length h2) (.slice I2 fi.b.length i2)
      have Oc := O3.put6 (b := w.heap.size + 2) hzw (.bool fr.s) (.slice H1 fr.a.length h1) (.slice I1 fr.b.length i1) (.bool fi.s) (.slice H2 fi.a.length h2) (.slice I2 fi.b.length i2)
      have Od := O4.put6 (b := w.heap.size + 2) hzw (.bool fr.s) (.slice H1 fr.a.length h1) (.slice I1 fr.b.length i1) (.bool fi.s) (.slice H2 fi.a.length h2) (.slice I2 fi.b.length i2)
      have r0' := s6.cell 0
      have r1' := s6.cell 1
      have r2' := s6.cell 2
      have r3' := s6.cell 3
      have r4' := s6.cell 4
      have r5' := s6.cell 5
      refine bodyPost_ret (v := .tuple #[.agg #[.bool fr.s, .slice H1 fr.a.length h1, .slice I1 fr.b.length i1, .bool fi.s, .slice H2 fi.a.length h2, .slice I2 fi.b.length i2], .int .i64 fk]) (by simp [results, r0', r1', r2', r3', r4', r5', go_sem]) rfl ?_
      rw [hR.out]
      exact ⟨H1, h1, I1, i1, H2, h2, I2, i2, rfl, Oa.base_le (by omega), Ob.base_le (by omega), Oc.base_le (by omega), Od.base_le (by omega), B6⟩

end Go.Proofs.Ytnlgoedklmjhlaa
namespace Go.Proofs.Ytnlgoedklmjhlaa
open Go.RowKit

theorem bchk_twice (r i : Rw) : bchkN2 r i r i = bchkN1 r i := by unfold bchkN2 bchkN1; simp
/-- Not's answer -/
def qnotA (r i : Rw) : Rw × Rw × Int := if bchkN1 r i = 0 then fitQ (((-iv r - 1 : Int)) : Rat) 0 else (rw0, rw0, bchkN1 r i)
theorem iv_len {r i : Rw} (h : wB r i = true) : (digs (iv r).natAbs).length = r.a.length := by
  obtain ⟨h1, _⟩ := wB_int h
  have e : (iv r).natAbs = val r.a := by
    unfold iv sgn
    split <;> omega
  rw [e, ← h1]
theorem qboth_not (r i : Rw) : qbothA (fun x _ => 4294967295 - x) r i r i = qnotA r i := by
  unfold qbothA qnotA
  rw [bchk_twice]
  by_cases hk : bchkN1 r i = 0
  · rw [if_pos hk, if_pos hk]
    have hl := iv_len (bchk1_zero hk)
    rw [rowOp_not (by rw [hl]; omega) (by rw [hl]; omega)]
  · rw [if_neg hk, if_neg hk]
/-- the same, by as many words as the reference takes -/
def qbothR (g : Nat → Nat → Nat) (r i r2 i2 : Rw) : Rw × Rw × Int :=
  if bchkN2 r i r2 i2 = 0 then fitQ ((rowOp g (r.a.length + r2.a.length + 1) (iv r) (iv r2) : Int) : Rat) 0 else (rw0, rw0, bchkN2 r i r2 i2)
theorem qboth_same {g : Nat → Nat → Nat} {f : Bool → Bool → Bool} (hg : bitOp g f) (r i r2 i2 : Rw) : qbothR g r i r2 i2 = qbothA g r i r2 i2 := by
  unfold qbothA qbothR
  by_cases hk : bchkN2 r i r2 i2 = 0
  · rw [if_pos hk, if_pos hk]
    obtain ⟨y1, y2⟩ := bchk2_zero hk
    have l1 := iv_len y1
    have l2 := iv_len y2
    rw [rowOp_any hg (n := r.a.length + r2.a.length + 1) (m := max r.a.length r2.a.length + 1) (by rw [l1]; omega) (by rw [l2]; omega) (by rw [l1]; omega) (by rw [l2]; omega)]
  · rw [if_neg hk, if_neg hk]

theorem rboth_And (V U : Value) (r i r2 i2 : Rw) (w : World) (hV : VN w w.heap.size V r i) (hU : VN w w.heap.size U r2 i2) :
    Calls Try.prog 9 #[.int .i64 1, V, U] w (RetNE w (qbothA (· &&& ·) r i r2 i2)) := by
  obtain ⟨A1, c1, D1, d1, A2, c2, D2, d2, rfl, p1, p2, p3, p4⟩ := hV
  obtain ⟨E1, j1, F1, k1, E2, j2, F2, k2, rfl, q1, q2, q3, q4⟩ := hU
  rw [← qboth_same bitOp_and]
  unfold qbothR
  by_cases hk : bchkN2 r i r2 i2 = 0
  · rw [if_pos hk]
    obtain ⟨y1, y2⟩ := bchk2_zero hk
    obtain ⟨x1, x2, x3⟩ := wB_rw y1
    obtain ⟨z1, z2, z3⟩ := wB_rw y2
    exact rboth_ok_And r.s i.s r2.s i2.s r.a r.b i.a i.b r2.a r2.b i2.a i2.b A1 D1 A2 D2 E1 F1 E2 F2 c1 d1 c2 d2 j1 k1 j2 k2 w p1 p2 p3 p4 q1 q2 q3 q4 (iv r) (iv r2) (Lib.hid x1) (Lib.hid z1) x3 z3 hk
  · rw [if_neg hk]
    exact rboth_bad r.s i.s r2.s i2.s r.a r.b i.a i.b r2.a r2.b i2.a i2.b A1 D1 A2 D2 E1 F1 E2 F2 c1 d1 c2 d2 j1 k1 j2 k2 w p1 p2 p3 p4 q1 q2 q3 q4 1 _ rfl (beq_eq_false_iff_ne.2 hk)

theorem rboth_Or (V U : Value) (r i r2 i2 : Rw) (w : World) (hV : VN w w.heap.size V r i) (hU : VN w w.heap.size U r2 i2) :
    Calls Try.prog 9 #[.int .i64 2, V, U] w (RetNE w (qbothA (· ||| ·) r i r2 i2)) := by
  obtain ⟨A1, c1, D1, d1, A2, c2, D2, d2, rfl, p1, p2, p3, p4⟩ := hV
  obtain ⟨E1, j1, F1, k1, E2, j2, F2, k2, rfl, q1, q2, q3, q4⟩ := hU
  rw [← qboth_same bitOp_or]
  unfold qbothR
  by_cases hk : bchkN2 r i r2 i2 = 0
  · rw [if_pos hk]
    obtain ⟨y1, y2⟩ := bchk2_zero hk
    obtain ⟨x1, x2, x3⟩ := wB_rw y1
    obtain ⟨z1, z2, z3⟩ := wB_rw y2
    exact rboth_ok_Or r.s i.s r2.s i2.s r.a r.b i.a i.b r2.a r2.b i2.a i2.b A1 D1 A2 D2 E1 F1 E2 F2 c1 d1 c2 d2 j1 k1 j2 k2 w p1 p2 p3 p4 q1 q2 q3 q4 (iv r) (iv r2) (Lib.hid x1) (Lib.hid z1) x3 z3 hk
  · rw [if_neg hk]
    exact rboth_bad r.s i.s r2.s i2.s r.a r.b i.a i.b r2.a r2.b i2.a i2.b A1 D1 A2 D2 E1 F1 E2 F2 c1 d1 c2 d2 j1 k1 j2 k2 w p1 p2 p3 p4 q1 q2 q3 q4 2 _ rfl (beq_eq_false_iff_ne.2 hk)

theorem rboth_Xor (V U : Value) (r i r2 i2 : Rw) (w : World) (hV : VN w w.heap.size V r i) (hU : VN w w.heap.size U r2 i2) :
    Calls Try.prog 9 #[.int .i64 3, V, U] w (RetNE w (qbothA (· ^^^ ·) r i r2 i2)) := by
  obtain ⟨A1, c1, D1, d1, A2, c2, D2, d2, rfl, p1, p2, p3, p4⟩ := hV
  obtain ⟨E1, j1, F1, k1, E2, j2, F2, k2, rfl, q1, q2, q3, q4⟩ := hU
  rw [← qboth_same bitOp_xor]
  unfold qbothR
  by_cases hk : bchkN2 r i r2 i2 = 0
  · rw [if_pos hk]
    obtain ⟨y1, y2⟩ := bchk2_zero hk
    obtain ⟨x1, x2, x3⟩ := wB_rw y1
    obtain ⟨z1, z2, z3⟩ := wB_rw y2
    exact rboth_ok_Xor r.s i.s r2.s i2.s r.a r.b i.a i.b r2.a r2.b i2.a i2.b A1 D1 A2 D2 E1 F1 E2 F2 c1 d1 c2 d2 j1 k1 j2 k2 w p1 p2 p3 p4 q1 q2 q3 q4 (iv r) (iv r2) (Lib.hid x1) (Lib.hid z1) x3 z3 hk
  · rw [if_neg hk]
    exact rboth_bad r.s i.s r2.s i2.s r.a r.b i.a i.b r2.a r2.b i2.a i2.b A1 D1 A2 D2 E1 F1 E2 F2 c1 d1 c2 d2 j1 k1 j2 k2 w p1 p2 p3 p4 q1 q2 q3 q4 3 _ rfl (beq_eq_false_iff_ne.2 hk)


set_option maxRecDepth 100000 in
set_option maxHeartbeats 16000000 in
theorem rbnot_bad (s1 s2 : Bool) (a1 b1 a2 b2 : List Nat) (A1 D1 A2 D2 : Option Addr) (c1 d1 c2 d2 : Nat) (w : World) (p1 : RW w w.heap.size A1 c1 a1) (p2 : RW w w.heap.size D1 d1 b1) (p3 : RW w w.heap.size A2 c2 a2) (p4 : RW w w.heap.size D2 d2 b2) (k : Int) (hk : bchkN1 ⟨s1, a1, b1⟩ ⟨s2, a2, b2⟩ = k) (hk0 : (k == 0) = false) :
    Calls Try.prog 13 #[.agg #[.bool s1, .slice A1 a1.length c1, .slice D1 b1.length d1, .bool s2, .slice A2 a2.length c2, .slice D2 b2.length d2]] w (RetVNE w (rw0, rw0, k)) := by
  have kk0 := S2.new w [.bool s1, .slice A1 a1.length c1, .slice D1 b1.length d1, .bool s2, .slice A2 a2.length c2, .slice D2 b2.length d2] [.bool false, .slice none 0 0, .slice none 0 0, .bool false, .slice none 0 0, .slice none 0 0] 26 26 6
  have LB4 := bal ((w.alloc (.cells #[.bool s1, .slice A1 a1.length c1, .slice D1 b1.length d1, .bool s2, .slice A2 a2.length c2, .slice D2 b2.length d2] 26)).alloc (.cells #[.bool false, .slice none 0 0, .slice none 0 0, .bool false, .slice none 0 0, .slice none 0 0] 26)) (.cells #[.bool s1, .slice A1 a1.length c1, .slice D1 b1.length d1, .bool s2, .slice A2 a2.length c2, .slice D2 b2.length d2] 26)
  have kk1 := kk0.nx LB4
  have SG := SB.new ((w.alloc (.cells #[.bool s1, .slice A1 a1.length c1, .slice D1 b1.length d1, .bool s2, .slice A2 a2.length c2, .slice D2 b2.length d2] 26)).alloc (.cells #[.bool false, .slice none 0 0, .slice none 0 0, .bool false, .slice none 0 0, .slice none 0 0] 26)) [.bool s1, .slice A1 a1.length c1, .slice D1 b1.length d1, .bool s2, .slice A2 a2.length c2, .slice D2 b2.length d2] 26
  have z3 : ((w.alloc (.cells #[.bool s1, .slice A1 a1.length c1, .slice D1 b1.length d1, .bool s2, .slice A2 a2.length c2, .slice D2 b2.length d2] 26)).alloc (.cells #[.bool false, .slice none 0 0, .slice none 0 0, .bool false, .slice none 0 0, .slice none 0 0] 26)).heap.size = w.heap.size + 2 := by simp
  rw [z3] at SG
  have hC := fun w' hg h1 h2 h3 h4 => rbcheck1_any (w.heap.size + 2) s1 a1 b1 s2 a2 b2 A1 c1 D1 d1 A2 c2 D2 d2 w' hg h1 h2 h3 h4
  have BW := kk1.2.2
  obtain ⟨W, hW⟩ : ∃ W, W = ((w.alloc (.cells #[.bool s1, .slice A1 a1.length c1, .slice D1 b1.length d1, .bool s2, .slice A2 a2.length c2, .slice D2 b2.length d2] 26)).alloc (.cells #[.bool false, .slice none 0 0, .slice none 0 0, .bool false, .slice none 0 0, .slice none 0 0] 26)).alloc (.cells #[.bool s1, .slice A1 a1.length c1, .slice D1 b1.length d1, .bool s2, .slice A2 a2.length c2, .slice D2 b2.length d2] 26) := ⟨_, rfl⟩
  have i0 := kk0.1.cell 0
  have i1 := kk0.1.cell 1
  have i2 := kk0.1.cell 2
  have i3 := kk0.1.cell 3
  have i4 := kk0.1.cell 4
  have i5 := kk0.1.cell 5
  simp only [hk] at hC
  have Hk := Lib.hid hk
  clear hk
  have n0 : (k != 0) = true := by simp [bne, hk0]
  go_enter Try.func13, Try.ntmps13
  go_wp2_with fail
  rw [← hW] at kk1 SG BW ⊢
  clear hW kk0 i0 i1 i2 i3 i4 i5
  refine (hC W SG (st p1 BW) (st p2 BW) (st p3 BW) (st p4 BW)).mono ?_; rintro e w5 ⟨rfl, B5⟩
  clear hC
  have kk5 := kk1.nx B5
  have hRC := kk5.2.1
  have BB := kk5.2.2
  go_wp2_with (refine wp_st6 rfl (.tmp 2) (.tmp 11) rfl _ rfl _ _ _ _ _ _ rfl hRC rfl rfl rfl rfl rfl rfl ?_)
  have s6 := hRC.put6 (.bool false) (.slice none 0 0) (.slice none 0 0) (.bool false) (.slice none 0 0) (.slice none 0 0)
  have B6 := wr6_below (b := w.heap.size + 1) BB (by omega) (.bool false) (.slice none 0 0) (.slice none 0 0) (.bool false) (.slice none 0 0) (.slice none 0 0)
  have r0' := s6.cell 0
  have r1' := s6.cell 1
  have r2' := s6.cell 2
  have r3' := s6.cell 3
  have r4' := s6.cell 4
  have r5' := s6.cell 5
  refine bodyPost_ret (v := .tuple #[.agg #[.bool false, .slice none 0 0, .slice none 0 0, .bool false, .slice none 0 0, .slice none 0 0], .int .i64 k]) (by simp [results, r0', r1', r2', r3', r4', r5', go_sem]) rfl ?_
  exact retVNE_nil k B6


set_option maxRecDepth 100000 in
set_option maxHeartbeats 16000000 in
theorem rbnot_ok (s1 s2 : Bool) (a1 b1 a2 b2 : List Nat) (A1 D1 A2 D2 : Option Addr) (c1 d1 c2 d2 : Nat) (w : World) (p1 : RW w w.heap.size A1 c1 a1) (p2 : RW w w.heap.size D1 d1 b1) (p3 : RW w w.heap.size A2 c2 a2) (p4 : RW w w.heap.size D2 d2 b2) (X : Int) (hX : Hid ((⟨s1, a1, b1⟩ : Rw) = rwq ((X : Int) : Rat) ∧ (⟨s2, a2, b2⟩ : Rw) = rwq 0)) (lx : a1.length ≤ 512) (hk : bchkN1 ⟨s1, a1, b1⟩ ⟨s2, a2, b2⟩ = 0) :
    Calls Try.prog 13 #[.agg #[.bool s1, .slice A1 a1.length c1, .slice D1 b1.length d1, .bool s2, .slice A2 a2.length c2, .slice D2 b2.length d2]] w (RetVNE w (fitQ (((-X - 1 : Int)) : Rat) 0)) := by
  have kk0 := S2.new w [.bool s1, .slice A1 a1.length c1, .slice D1 b1.length d1, .bool s2, .slice A2 a2.length c2, .slice D2 b2.length d2] [.bool false, .slice none 0 0, .slice none 0 0, .bool false, .slice none 0 0, .slice none 0 0] 26 26 6
  have LB4 := bal ((w.alloc (.cells #[.bool s1, .slice A1 a1.length c1, .slice D1 b1.length d1, .bool s2, .slice A2 a2.length c2, .slice D2 b2.length d2] 26)).alloc (.cells #[.bool false, .slice none 0 0, .slice none 0 0, .bool false, .slice none 0 0, .slice none 0 0] 26)) (.cells #[.bool s1, .slice A1 a1.length c1, .slice D1 b1.length d1, .bool s2, .slice A2 a2.length c2, .slice D2 b2.length d2] 26)
  have kk1 := kk0.nx LB4
  have SG := SB.new ((w.alloc (.cells #[.bool s1, .slice A1 a1.length c1, .slice D1 b1.length d1, .bool s2, .slice A2 a2.length c2, .slice D2 b2.length d2] 26)).alloc (.cells #[.bool false, .slice none 0 0, .slice none 0 0, .bool false, .slice none 0 0, .slice none 0 0] 26)) [.bool s1, .slice A1 a1.length c1, .slice D1 b1.length d1, .bool s2, .slice A2 a2.length c2, .slice D2 b2.length d2] 26
  have z3 : ((w.alloc (.cells #[.bool s1, .slice A1 a1.length c1, .slice D1 b1.length d1, .bool s2, .slice A2 a2.length c2, .slice D2 b2.length d2] 26)).alloc (.cells #[.bool false, .slice none 0 0, .slice none 0 0, .bool false, .slice none 0 0, .slice none 0 0] 26)).heap.size = w.heap.size + 2 := by simp
  rw [z3] at SG
  have hC := fun w' hg h1 h2 h3 h4 => rbcheck1_any (w.heap.size + 2) s1 a1 b1 s2 a2 b2 A1 c1 D1 d1 A2 c2 D2 d2 w' hg h1 h2 h3 h4
  have BW := kk1.2.2
  obtain ⟨W, hW⟩ : ∃ W, W = ((w.alloc (.cells #[.bool s1, .slice A1 a1.length c1, .slice D1 b1.length d1, .bool s2, .slice A2 a2.length c2, .slice D2 b2.length d2] 26)).alloc (.cells #[.bool false, .slice none 0 0, .slice none 0 0, .bool false, .slice none 0 0, .slice none 0 0] 26)).alloc (.cells #[.bool s1, .slice A1 a1.length c1, .slice D1 b1.length d1, .bool s2, .slice A2 a2.length c2, .slice D2 b2.length d2] 26) := ⟨_, rfl⟩
  have i0 := kk0.1.cell 0
  have i1 := kk0.1.cell 1
  have i2 := kk0.1.cell 2
  have i3 := kk0.1.cell 3
  have i4 := kk0.1.cell 4
  have i5 := kk0.1.cell 5
  simp only [hk] at hC
  clear hk
  have hT := fun w' h1 h2 => rturn_int X s1 s2 a1 b1 A1 D1 A2 D2 c1 d1 c2 d2 a2.length b2.length w' hX.out.1 (by omega) h1 h2
  obtain ⟨s, v, hsv, hs0⟩ : ∃ (s : Bool) (v : Nat), (-X - 1 : Int) = sgn s v ∧ (v = 0 → s = false) := by
    by_cases h : X < 0
    · exact ⟨false, (-X - 1).toNat, by rw [sgn_false]; omega, fun _ => rfl⟩
    · exact ⟨true, (X + 1).toNat, by rw [sgn_true]; omega, fun h => by omega⟩
  obtain ⟨q, hq⟩ : ∃ q, Hid (rwq (((-X - 1 : Int)) : Rat) = q) := ⟨_, rfl⟩
  rw [hq.out] at hT
  have hF : Hid ((512 < q.a.length → fitQ (((-X - 1 : Int)) : Rat) 0 = (rw0, rw0, 4)) ∧ (q.a.length ≤ 512 → fitQ (((-X - 1 : Int)) : Rat) 0 = (q, ⟨s2, a2, b2⟩, 0))) := by
    rw [← hq.out, hsv, rwq_int s v hs0, hX.out.2, rwq_z']
    exact ⟨fun h => fit_big h, fun h => fit_int hs0 h⟩
  clear hsv hs0
  go_enter Try.func13, Try.ntmps13
  go_wp2_with fail
  rw [← hW] at kk1 SG BW ⊢
  clear hW kk0 i0 i1 i2 i3 i4 i5
  refine (hC W SG (st p1 BW) (st p2 BW) (st p3 BW) (st p4 BW)).mono ?_; rintro e w5 ⟨rfl, B5⟩
  clear hC SG
  have kk5 := kk1.nx B5
  have BB := kk5.2.2
  have i0 := kk5.1.cell 0
  have i1 := kk5.1.cell 1
  have i2 := kk5.1.cell 2
  have i3 := kk5.1.cell 3
  have i4 := kk5.1.cell 4
  have i5 := kk5.1.cell 5
  go_wp2_with fail
  refine (hT w5 (st p1 BB) (st p2 BB)).mono ?_; rintro e w6 ⟨T, ct, D3, d3, rfl, OT, OD, B6⟩
  clear hT i0 i1 i2 i3 i4 i5
  have kk6 := kk5.nx B6
  have L7 := bal w6 (.cells #[.bool q.s, .slice T q.a.length ct, .slice D3 q.b.length d3, .bool s2, .slice A2 a2.length c2, .slice D2 b2.length d2] 26)
  have S7 := SB.new w6 [.bool q.s, .slice T q.a.length ct, .slice D3 q.b.length d3, .bool s2, .slice A2 a2.length c2, .slice D2 b2.length d2] 26
  have kk7 := kk6.nx L7
  have OT := OT.alloc (.cells #[.bool q.s, .slice T q.a.length ct, .slice D3 q.b.length d3, .bool s2, .slice A2 a2.length c2, .slice D2 b2.length d2] 26)
  have OD := OD.alloc (.cells #[.bool q.s, .slice T q.a.length ct, .slice D3 q.b.length d3, .bool s2, .slice A2 a2.length c2, .slice D2 b2.length d2] 26)
  have hz := kk5.2.1.2
  obtain ⟨w7, hW7⟩ : ∃ w7, w7 = w6.alloc (.cells #[.bool q.s, .slice T q.a.length ct, .slice D3 q.b.length d3, .bool s2, .slice A2 a2.length c2, .slice D2 b2.length d2] 26) := ⟨_, rfl⟩
  go_upto_region 5 with fail
  rw [← hW7] at kk7 S7 OT OD ⊢
  clear hW7 L7 kk6 B6 B5 kk5 BB
  have hRC := kk7.2.1
  have BB := kk7.2.2
  by_cases h5 : 512 < q.a.length
  · have m1 := S7.cell 1
    go_wp2_with (refine wp_st6 rfl (.tmp 2) (.tmp 20) rfl _ rfl _ _ _ _ _ _ rfl hRC rfl rfl rfl rfl rfl rfl ?_)
    have s6 := hRC.put6 (.bool false) (.slice none 0 0) (.slice none 0 0) (.bool false) (.slice none 0 0) (.slice none 0 0)
    have B6 := wr6_below (b := w.heap.size + 1) BB (by omega) (.bool false) (.slice none 0 0) (.slice none 0 0) (.bool false) (.slice none 0 0) (.slice none 0 0)
    have r0' := s6.cell 0
    have r1' := s6.cell 1
    have r2' := s6.cell 2
    have r3' := s6.cell 3
    have r4' := s6.cell 4
    have r5' := s6.cell 5
    refine bodyPost_ret (v := .tuple #[.agg #[.bool false, .slice none 0 0, .slice none 0 0, .bool false, .slice none 0 0, .slice none 0 0], .int .i64 4]) (by simp [results, r0', r1', r2', r3', r4', r5', go_sem]) rfl ?_
    rw [hF.out.1 h5]
    exact retVNE_nil 4 B6
  · have m0 := S7.cell 0
    have m1 := S7.cell 1
    have m2 := S7.cell 2
    have m3 := S7.cell 3
    have m4 := S7.cell 4
    have m5 := S7.cell 5
    go_wp2_with (refine wp_st6 rfl (.tmp 2) (.tmp 21) rfl _ rfl _ _ _ _ _ _ rfl hRC rfl rfl rfl rfl rfl rfl ?_)
    clear m0 m1 m2 m3 m4 m5
    have s6 := hRC.put6 (.bool q.s) (.slice T q.a.length ct) (.slice D3 q.b.length d3) (.bool s2) (.slice A2 a2.length c2) (.slice D2 b2.length d2)
    have B6 := wr6_below (b := w.heap.size + 1) BB (by omega) (.bool q.s) (.slice T q.a.length ct) (.slice D3 q.b.length d3) (.bool s2) (.slice A2 a2.length c2) (.slice D2 b2.length d2)
    have OT := OT.put6 (b := w.heap.size + 1) hz (.bool q.s) (.slice T q.a.length ct) (.slice D3 q.b.length d3) (.bool s2) (.slice A2 a2.length c2) (.slice D2 b2.length d2)
    have OD := OD.put6 (b := w.heap.size + 1) hz (.bool q.s) (.slice T q.a.length ct) (.slice D3 q.b.length d3) (.bool s2) (.slice A2 a2.length c2) (.slice D2 b2.length d2)
    have r0' := s6.cell 0
    have r1' := s6.cell 1
    have r2' := s6.cell 2
    have r3' := s6.cell 3
    have r4' := s6.cell 4
    have r5' := s6.cell 5
    refine bodyPost_ret (v := .tuple #[.agg #[.bool q.s, .slice T q.a.length ct, .slice D3 q.b.length d3, .bool s2, .slice A2 a2.length c2, .slice D2 b2.length d2], .int .i64 0]) (by simp [results, r0', r1', r2', r3', r4', r5', go_sem]) rfl ?_
    rw [hF.out.2 (by omega)]
    exact ⟨T, ct, D3, d3, A2, c2, D2, d2, rfl, OT.rw, OD.rw, st p3 B6, st p4 B6, B6⟩
theorem rbnot_any (V : Value) (r i : Rw) (w : World) (hV : VN w w.heap.size V r i) :
    Calls Try.prog 13 #[V] w (RetVNE w (qnotA r i)) := by
  obtain ⟨A1, c1, D1, d1, A2, c2, D2, d2, rfl, p1, p2, p3, p4⟩ := hV
  unfold qnotA
  by_cases hk : bchkN1 r i = 0
  · rw [if_pos hk]
    obtain ⟨x1, x2, x3⟩ := wB_rw (bchk1_zero hk)
    exact rbnot_ok r.s i.s r.a r.b i.a i.b A1 D1 A2 D2 c1 d1 c2 d2 w p1 p2 p3 p4 (iv r) (Lib.hid ⟨x1, x2⟩) x3 hk
  · rw [if_neg hk]
    exact rbnot_bad r.s i.s r.a r.b i.a i.b A1 D1 A2 D2 c1 d1 c2 d2 w p1 p2 p3 p4 _ rfl (beq_eq_false_iff_ne.2 hk)

end Go.Proofs.Ytnlgoedklmjhlaa
namespace Go.Proofs.Ytnlgoedklmjhlaa
open Go.RowKit

theorem nB_whole (s : Bool) (v : Nat) (h : v = 0 → s = false) (hl : (digs v).length ≤ 512) : wB (rwq ((sgn s v : Int) : Rat)) (rwq 0) = true := by
  have h1 : qw ((sgn s v : Int) : Rat) ≤ 512 := by rw [qw_int]; omega
  have h2 : qw 0 ≤ 512 := by rw [qw_zero]; omega
  have hn : nB (rwq ((sgn s v : Int) : Rat)) (rwq 0) = true := by
    unfold nB rwq
    dsimp only
    rw [rsB_of _ h1, rsB_of _ h2]; rfl
  unfold wB
  rw [hn, rwq_int s v h, rwq_z']
  rfl
theorem wB_nB {r i : Rw} (h : wB r i = true) : nB r i = true := by
  unfold wB at h
  rw [Bool.and_eq_true] at h
  exact h.1
theorem bchk2_of {r i r2 i2 : Rw} (h1 : wB r i = true) (h2 : wB r2 i2 = true) : bchkN2 r i r2 i2 = 0 := by
  unfold bchkN2
  rw [if_pos ⟨wB_nB h1, wB_nB h2⟩, if_pos ⟨h1, h2⟩]
theorem bchk1_of {r i : Rw} (h1 : wB r i = true) : bchkN1 r i = 0 := by
  unfold bchkN1
  rw [if_pos (wB_nB h1), if_pos h1]
theorem sameB_self {r i : Rw} (h : nB r i = true) : sameB r i r i = true := by
  unfold sameB
  rw [h]
  simp [fsB]
theorem alikeB_self (r i : Rw) : alikeB r i r i = true := by unfold alikeB; simp [fsB]
theorem digs_small {k : Nat} (h0 : k ≠ 0) (h : k < 4294967296) : digs k = [k] := digs_one (by omega) h
theorem and_awake : qbothA (· &&& ·) (rwq ((-1 : Int) : Rat)) (rwq 0) (rwq ((5 : Int) : Rat)) (rwq 0) = (rwq ((5 : Int) : Rat), rwq 0, 0) := by
  have d1 : (digs 1).length = 1 := by rw [digs_one1]; rfl
  have d5 : (digs 5).length = 1 := by rw [digs_small (by omega) (by omega)]; rfl
  have e1 : ((-1 : Int)) = sgn true 1 := by rw [sgn_true]; rfl
  have e5 : ((5 : Int)) = sgn false 5 := by rw [sgn_false]; rfl
  have w1 : wB (rwq ((-1 : Int) : Rat)) (rwq 0) = true := by rw [e1]; exact nB_whole true 1 (by omega) (by omega)
  have w5 : wB (rwq ((5 : Int) : Rat)) (rwq 0) = true := by rw [e5]; exact nB_whole false 5 (by omega) (by omega)
  unfold qbothA
  rw [if_pos (bchk2_of w1 w5)]
  have v1 : iv (rwq ((-1 : Int) : Rat)) = -1 := by unfold iv; rw [e1, rwq_int true 1 (by omega)]; show sgn true (val (digs 1)) = _; rw [val_digs]
  have v5 : iv (rwq ((5 : Int) : Rat)) = 5 := by unfold iv; rw [e5, rwq_int false 5 (fun _ => rfl)]; show sgn false (val (digs 5)) = _; rw [val_digs]
  rw [v1, v5]
  have l1 : (rwq ((-1 : Int) : Rat)).a.length = 1 := by rw [e1, rwq_int true 1 (by omega)]; exact d1
  have l5 : (rwq ((5 : Int) : Rat)).a.length = 1 := by rw [e5, rwq_int false 5 (fun _ => rfl)]; exact d5
  rw [l1, l5]
  have hop : isOp (fun p q => p && q) (rowOp (fun x y => x &&& y) (max 1 1 + 1) (-1) 5) (-1) 5 := rowOp_is bitOp_and (n := max 1 1 + 1) (X := -1) (Y := 5) (by show (digs 1).length < _; omega) (by show (digs 5).length < _; omega)
  have h5 : isOp (fun p q => p && q) 5 (-1) 5 := fun k => by
    have : ib (-1) k = true := by unfold ib; rw [if_pos (by omega)]; simp
    show _ = (_ && _)
    rw [this]; rfl
  rw [isOp_uniq hop h5]
  exact fitQ_ok (by rw [e5, qw_int]; omega) (by rw [qw_zero]; omega)
set_option maxRecDepth 100000 in
set_option maxHeartbeats 4000000 in
theorem awake4_any (w : World) : Calls Try.prog 14 #[] w fun e w' => e = .returned (.bool true) ∧ Below w.heap.size w w' := by
  have hI1 := fun w' => int_any (-1) w' (by omega) (by omega)
  have hI5 := fun w' => int_any 5 w' (by omega) (by omega)
  have hA := fun V U w' x y => band_any V U (rwq ((-1 : Int) : Rat)) (rwq 0) (rwq ((5 : Int) : Rat)) (rwq 0) w' x y
  have d5 : (digs 5).length = 1 := by rw [digs_small (by omega) (by omega)]; rfl
  have hw : nB (rwq ((5 : Int) : Rat)) (rwq 0) = true := by rw [show (5 : Int) = sgn false 5 by rw [sgn_false]; rfl]; exact wB_nB (nB_whole false 5 (fun _ => rfl) (by omega))
  rw [and_awake] at hA
  obtain ⟨m, hm⟩ : ∃ m, rwq ((-1 : Int) : Rat) = m := ⟨_, rfl⟩
  obtain ⟨r, hr⟩ : ∃ r, rwq ((5 : Int) : Rat) = r := ⟨_, rfl⟩
  obtain ⟨i, hi⟩ : ∃ i, rwq 0 = i := ⟨_, rfl⟩
  rw [hr, hi] at hw
  simp only [hm, hr, hi] at hI1 hI5 hA
  have hS := fun v u w' x y => esame_any v u r i r i w' x y
  simp only [sameB_self hw] at hS
  clear hw hm hr hi d5
  go_enter Try.func14, Try.ntmps14
  go_wp2_with fail
  refine (hI1 _).mono ?_; rintro e wa ⟨a1, b1, a2, b2, a3, b3, a4, b4, rfl, N1, N2, N3, N4, Ba⟩
  go_wp2_with fail
  refine (hI5 _).mono ?_; rintro e wb ⟨f1, g1, f2, g2, f3, g3, f4, g4, rfl, M1, M2, M3, M4, Bb⟩
  go_wp2_with fail
  refine (hA _ _ _ ⟨a1, b1, a2, b2, a3, b3, a4, b4, rfl, st N1.rw Bb, st N2.rw Bb, st N3.rw Bb, st N4.rw Bb⟩ ⟨f1, g1, f2, g2, f3, g3, f4, g4, rfl, M1.rw, M2.rw, M3.rw, M4.rw⟩).mono ?_; rintro e w2 ⟨A1, c1, D1, d1, A2, c2, D2, d2, rfl, O1, O2, O3, O4, B2⟩
  dsimp only at O1 O2 O3 O4
  have B1 := bt Ba Bb
  clear hI1 hA N1 N2 N3 N4 M1 M2 M3 M4
  have B3 := bal w2 (.cells #[.bool r.s, .slice A1 r.a.length c1, .slice D1 r.b.length d1, .bool i.s, .slice A2 i.a.length c2, .slice D2 i.b.length d2] 26)
  have S3 := SB.new w2 [.bool r.s, .slice A1 r.a.length c1, .slice D1 r.b.length d1, .bool i.s, .slice A2 i.a.length c2, .slice D2 i.b.length d2] 26
  obtain ⟨W3, hW3⟩ : ∃ W3, W3 = w2.alloc (.cells #[.bool r.s, .slice A1 r.a.length c1, .slice D1 r.b.length d1, .bool i.s, .slice A2 i.a.length c2, .slice D2 i.b.length d2] 26) := ⟨_, rfl⟩
  have R1 := st O1.rw B3
  have R2' := st O2.rw B3
  have R3 := st O3.rw B3
  have R4 := st O4.rw B3
  go_wp2_with fail
  rw [← hW3] at S3 B3 R1 R2' R3 R4 ⊢
  clear hW3
  have m0 := S3.cell 0
  have m1 := S3.cell 1
  have m2 := S3.cell 2
  have m3 := S3.cell 3
  have m4 := S3.cell 4
  have m5 := S3.cell 5
  have Bd : Below W3.heap.size W3 W3.drew := Below.drew (Below.refl _ _)
  have S3d := S3.nx Bd
  go_region_with (first
    | (go_at_call 29; refine (hI5 _).mono ?_; rintro e w5 ⟨E1, e1, F1, f1, E2, e2, F2, f2, rfl, P1, P2, P3, P4, B5⟩; have Sa := S3d.nx B5; have x0 := Sa.cell 0; have x1 := Sa.cell 1; have x2 := Sa.cell 2; have x3 := Sa.cell 3; have x4 := Sa.cell 4; have x5 := Sa.cell 5)
    | (go_at_call 27; refine (hS _ _ w5 ⟨A1, c1, D1, d1, A2, c2, D2, d2, rfl, st (st R1 Bd) B5, st (st R2' Bd) B5, st (st R3 Bd) B5, st (st R4 Bd) B5⟩ ⟨E1, e1, F1, f1, E2, e2, F2, f2, rfl, P1.rw, P2.rw, P3.rw, P4.rw⟩).mono ?_; rintro e w6 ⟨rfl, B6⟩))
  all_goals
    go_wp2_with fail
    go_ret
    exact ⟨rfl, bt (bt (bt (bt (bt B1 B2) B3) Bd) B5) B6⟩


set_option maxRecDepth 100000 in
set_option maxHeartbeats 16000000 in
theorem bitsBoth_walk (V : Value) (ra ia : Rw) (U : Value) (rb ib : Rw) (w : World) (hV : VN w w.heap.size V ra ia) (hU : VN w w.heap.size U rb ib) :
    Calls Try.prog 3 #[V, U] w fun e w' => e = .returned (.bool true) ∧ Below w.heap.size w w' := by
  obtain ⟨A1, c1, D1, d1, A2, c2, D2, d2, rfl, p1, p2, p3, p4⟩ := hV
  obtain ⟨A3, c3, D3, d3, A4, c4, D4, d4, rfl, p5, p6, p7, p8⟩ := hU
  obtain ⟨S_a, S_b, C0⟩ := T2.new w [.bool ra.s, .slice A1 ra.a.length c1, .slice D1 ra.b.length d1, .bool ia.s, .slice A2 ia.a.length c2, .slice D2 ia.b.length d2] [.bool rb.s, .slice A3 rb.a.length c3, .slice D3 rb.b.length d3, .bool ib.s, .slice A4 ib.a.length c4, .slice D4 ib.b.length d4] 26 26
  have H_a : VN w w.heap.size (.agg #[.bool ra.s, .slice A1 ra.a.length c1, .slice D1 ra.b.length d1, .bool ia.s, .slice A2 ia.a.length c2, .slice D2 ia.b.length d2]) ra ia := ⟨A1, c1, D1, d1, A2, c2, D2, d2, rfl, p1, p2, p3, p4⟩
  have H_a := H_a.st C0
  have H_b : VN w w.heap.size (.agg #[.bool rb.s, .slice A3 rb.a.length c3, .slice D3 rb.b.length d3, .bool ib.s, .slice A4 ib.a.length c4, .slice D4 ib.b.length d4]) rb ib := ⟨A3, c3, D3, d3, A4, c4, D4, d4, rfl, p5, p6, p7, p8⟩
  have H_b := H_b.st C0
  clear p1 p2 p3 p4 p5 p6 p7 p8
  have o0 := fun V U w' h1 h2 => band_any V U ra ia rb ib w' h1 h2
  have o1 := fun V U w' h1 h2 => rboth_And V U ra ia rb ib w' h1 h2
  rcases em : qbothA (· &&& ·) ra ia rb ib with ⟨mr, mi, mk⟩
  rw [em] at o0 o1
  clear em
  have l0 := fun V U w' h1 h2 => alike_any V U mr mi mr mi w' h1 h2
  rw [alikeB_self] at l0
  have o2 := fun V U w' h1 h2 => bor_any V U ra ia rb ib w' h1 h2
  have o3 := fun V U w' h1 h2 => rboth_Or V U ra ia rb ib w' h1 h2
  rcases ed : qbothA (· ||| ·) ra ia rb ib with ⟨dr, di, dk⟩
  rw [ed] at o2 o3
  clear ed
  have l1 := fun V U w' h1 h2 => alike_any V U dr di dr di w' h1 h2
  rw [alikeB_self] at l1
  have o4 := fun V U w' h1 h2 => bxor_any V U ra ia rb ib w' h1 h2
  have o5 := fun V U w' h1 h2 => rboth_Xor V U ra ia rb ib w' h1 h2
  rcases es : qbothA (· ^^^ ·) ra ia rb ib with ⟨sr, si, sk⟩
  rw [es] at o4 o5
  clear es
  have l2 := fun V U w' h1 h2 => alike_any V U sr si sr si w' h1 h2
  rw [alikeB_self] at l2
  have o6 := fun V w' h1 => bnot_any V ra ia w' h1
  have o7 := fun V w' h1 => rbnot_any V ra ia w' h1
  rw [qboth_not] at o6
  rcases en : qnotA ra ia with ⟨nr, ni, nk⟩
  rw [en] at o6 o7
  clear en
  have l3 := fun V U w' h1 h2 => alike_any V U nr ni nr ni w' h1 h2
  rw [alikeB_self] at l3
  obtain ⟨W0, hW0⟩ : ∃ W0, W0 = (w.alloc (.cells #[.bool ra.s, .slice A1 ra.a.length c1, .slice D1 ra.b.length d1, .bool ia.s, .slice A2 ia.a.length c2, .slice D2 ia.b.length d2] 26)).alloc (.cells #[.bool rb.s, .slice A3 rb.a.length c3, .slice D3 rb.b.length d3, .bool ib.s, .slice A4 ib.a.length c4, .slice D4 ib.b.length d4] 26) := ⟨_, rfl⟩
  go_enter Try.func3, Try.ntmps3
  rw [← hW0] at S_a S_b C0 H_a H_b
  rw [hW0] at S_a S_b C0 H_a H_b
  have i0 := S_a.cell 0
  have i1 := S_a.cell 1
  have i2 := S_a.cell 2
  have i3 := S_a.cell 3
  have i4 := S_a.cell 4
  have i5 := S_a.cell 5
  have j0 := S_b.cell 0
  have j1 := S_b.cell 1
  have j2 := S_b.cell 2
  have j3 := S_b.cell 3
  have j4 := S_b.cell 4
  have j5 := S_b.cell 5
  go_wp2_with fail
  clear i0 i1 i2 i3 i4 i5 j0 j1 j2 j3 j4 j5
  rw [← hW0] at S_a S_b C0 H_a H_b ⊢
  clear hW0
  refine (o0 _ _ _ H_a H_b).mono ?_; rintro e w3 ⟨A3a, c3a, D3a, d3a, A3b, c3b, D3b, d3b, rfl, O3a, O3b, O3c, O3d, B3⟩
  try dsimp only at O3a O3b O3c O3d
  have H_x0 : VN w3 w3.heap.size (.agg #[.bool mr.s, .slice A3a mr.a.length c3a, .slice D3a mr.b.length d3a, .bool mi.s, .slice A3b mi.a.length c3b, .slice D3b mi.b.length d3b]) mr mi := ⟨A3a, c3a, D3a, d3a, A3b, c3b, D3b, d3b, rfl, O3a.rw, O3b.rw, O3c.rw, O3d.rw⟩
  clear O3a O3b O3c O3d
  have S_a := S_a.nx B3
  have H_a := H_a.st B3
  have S_b := S_b.nx B3
  have H_b := H_b.st B3
  have C0 := bt C0 B3
  have L3 := bal w3 (.cells #[.bool mr.s, .slice A3a mr.a.length c3a, .slice D3a mr.b.length d3a, .bool mi.s, .slice A3b mi.a.length c3b, .slice D3b mi.b.length d3b] 26)
  have S_x0 := SB.new w3 [.bool mr.s, .slice A3a mr.a.length c3a, .slice D3a mr.b.length d3a, .bool mi.s, .slice A3b mi.a.length c3b, .slice D3b mi.b.length d3b] 26
  have S_a := S_a.nx L3
  have H_a := H_a.st L3
  have S_b := S_b.nx L3
  have H_b := H_b.st L3
  have H_x0 := H_x0.st L3
  have C0 := bt C0 L3
  have i0 := S_a.cell 0
  have i1 := S_a.cell 1
  have i2 := S_a.cell 2
  have i3 := S_a.cell 3
  have i4 := S_a.cell 4
  have i5 := S_a.cell 5
  have j0 := S_b.cell 0
  have j1 := S_b.cell 1
  have j2 := S_b.cell 2
  have j3 := S_b.cell 3
  have j4 := S_b.cell 4
  have j5 := S_b.cell 5
  go_wp2_with fail
  refine (o1 _ _ _ H_a H_b).mono ?_; rintro e w4 ⟨A4a, c4a, D4a, d4a, A4b, c4b, D4b, d4b, rfl, O4a, O4b, O4c, O4d, B4⟩
  clear i0 i1 i2 i3 i4 i5
  clear j0 j1 j2 j3 j4 j5
  try dsimp only at O4a O4b O4c O4d
  have H_y0 : VN w4 w4.heap.size (.agg #[.bool mr.s, .slice A4a mr.a.length c4a, .slice D4a mr.b.length d4a, .bool mi.s, .slice A4b mi.a.length c4b, .slice D4b mi.b.length d4b]) mr mi := ⟨A4a, c4a, D4a, d4a, A4b, c4b, D4b, d4b, rfl, O4a.rw, O4b.rw, O4c.rw, O4d.rw⟩
  clear O4a O4b O4c O4d
  have S_a := S_a.nx B4
  have H_a := H_a.st B4
  have S_b := S_b.nx B4
  have H_b := H_b.st B4
  have S_x0 := S_x0.nx B4
  have H_x0 := H_x0.st B4
  have C0 := bt C0 B4
  have L4 := bal w4 (.cells #[.bool mr.s, .slice A4a mr.a.length c4a, .slice D4a mr.b.length d4a, .bool mi.s, .slice A4b mi.a.length c4b, .slice D4b mi.b.length d4b] 26)
  have S_y0 := SB.new w4 [.bool mr.s, .slice A4a mr.a.length c4a, .slice D4a mr.b.length d4a, .bool mi.s, .slice A4b mi.a.length c4b, .slice D4b mi.b.length d4b] 26
  have S_a := S_a.nx L4
  have H_a := H_a.st L4
  have S_b := S_b.nx L4
  have H_b := H_b.st L4
  have S_x0 := S_x0.nx L4
  have H_x0 := H_x0.st L4
  have H_y0 := H_y0.st L4
  have C0 := bt C0 L4
  have i0 := S_a.cell 0
  have i1 := S_a.cell 1
  have i2 := S_a.cell 2
  have i3 := S_a.cell 3
  have i4 := S_a.cell 4
  have i5 := S_a.cell 5
  have j0 := S_b.cell 0
  have j1 := S_b.cell 1
  have j2 := S_b.cell 2
  have j3 := S_b.cell 3
  have j4 := S_b.cell 4
  have j5 := S_b.cell 5
  go_wp2_with fail
  refine (o2 _ _ _ H_a H_b).mono ?_; rintro e w5 ⟨A5a, c5a, D5a, d5a, A5b, c5b, D5b, d5b, rfl, O5a, O5b, O5c, O5d, B5⟩
  clear i0 i1 i2 i3 i4 i5
  clear j0 j1 j2 j3 j4 j5
  try dsimp only at O5a O5b O5c O5d
  have H_x1 : VN w5 w5.heap.size (.agg #[.bool dr.s, .slice A5a dr.a.length c5a, .slice D5a dr.b.length d5a, .bool di.s, .slice A5b di.a.length c5b, .slice D5b di.b.length d5b]) dr di := ⟨A5a, c5a, D5a, d5a, A5b, c5b, D5b, d5b, rfl, O5a.rw, O5b.rw, O5c.rw, O5d.rw⟩
  clear O5a O5b O5c O5d
  have S_a := S_a.nx B5
  have H_a := H_a.st B5
  have S_b := S_b.nx B5
  have H_b := H_b.st B5
  have S_x0 := S_x0.nx B5
  have H_x0 := H_x0.st B5
  have S_y0 := S_y0.nx B5
  have H_y0 := H_y0.st B5
  have C0 := bt C0 B5
  have L5 := bal w5 (.cells #[.bool dr.s, .slice A5a dr.a.length c5a, .slice D5a dr.b.length d5a, .bool di.s, .slice A5b di.a.length c5b, .slice D5b di.b.length d5b] 26)
  have S_x1 := SB.new w5 [.bool dr.s, .slice A5a dr.a.length c5a, .slice D5a dr.b.length d5a, .bool di.s, .slice A5b di.a.length c5b, .slice D5b di.b.length d5b] 26
  have S_a := S_a.nx L5
  have H_a := H_a.st L5
  have S_b := S_b.nx L5
  have H_b := H_b.st L5
  have S_x0 := S_x0.nx L5
  have H_x0 := H_x0.st L5
  have S_y0 := S_y0.nx L5
  have H_y0 := H_y0.st L5
  have H_x1 := H_x1.st L5
  have C0 := bt C0 L5
  have i0 := S_a.cell 0
  have i1 := S_a.cell 1
  have i2 := S_a.cell 2
  have i3 := S_a.cell 3
  have i4 := S_a.cell 4
  have i5 := S_a.cell 5
  have j0 := S_b.cell 0
  have j1 := S_b.cell 1
  have j2 := S_b.cell 2
  have j3 := S_b.cell 3
  have j4 := S_b.cell 4
  have j5 := S_b.cell 5
  go_wp2_with fail
  refine (o3 _ _ _ H_a H_b).mono ?_; rintro e w6 ⟨A6a, c6a, D6a, d6a, A6b, c6b, D6b, d6b, rfl, O6a, O6b, O6c, O6d, B6⟩
  clear i0 i1 i2 i3 i4 i5
  clear j0 j1 j2 j3 j4 j5
  try dsimp only at O6a O6b O6c O6d
  have H_y1 : VN w6 w6.heap.size (.agg #[.bool dr.s, .slice A6a dr.a.length c6a, .slice D6a dr.b.length d6a, .bool di.s, .slice A6b di.a.length c6b, .slice D6b di.b.length d6b]) dr di := ⟨A6a, c6a, D6a, d6a, A6b, c6b, D6b, d6b, rfl, O6a.rw, O6b.rw, O6c.rw, O6d.rw⟩
  clear O6a O6b O6c O6d
  have S_a := S_a.nx B6
  have H_a := H_a.st B6
  have S_b := S_b.nx B6
  have H_b := H_b.st B6
  have S_x0 := S_x0.nx B6
  have H_x0 := H_x0.st B6
  have S_y0 := S_y0.nx B6
  have H_y0 := H_y0.st B6
  have S_x1 := S_x1.nx B6
  have H_x1 := H_x1.st B6
  have C0 := bt C0 B6
  have L6 := bal w6 (.cells #[.bool dr.s, .slice A6a dr.a.length c6a, .slice D6a dr.b.length d6a, .bool di.s, .slice A6b di.a.length c6b, .slice D6b di.b.length d6b] 26)
  have S_y1 := SB.new w6 [.bool dr.s, .slice A6a dr.a.length c6a, .slice D6a dr.b.length d6a, .bool di.s, .slice A6b di.a.length c6b, .slice D6b di.b.length d6b] 26
  have S_a := S_a.nx L6
  have H_a := H_a.st L6
  have S_b := S_b.nx L6
  have H_b := H_b.st L6
  have S_x0 := S_x0.nx L6
  have H_x0 := H_x0.st L6
  have S_y0 := S_y0.nx L6
  have H_y0 := H_y0.st L6
  have S_x1 := S_x1.nx L6
  have H_x1 := H_x1.st L6
  have H_y1 := H_y1.st L6
  have C0 := bt C0 L6
  have i0 := S_a.cell 0
  have i1 := S_a.cell 1
  have i2 := S_a.cell 2
  have i3 := S_a.cell 3
  have i4 := S_a.cell 4
  have i5 := S_a.cell 5
  have j0 := S_b.cell 0
  have j1 := S_b.cell 1
  have j2 := S_b.cell 2
  have j3 := S_b.cell 3
  have j4 := S_b.cell 4
  have j5 := S_b.cell 5
  go_wp2_with fail
  refine (o4 _ _ _ H_a H_b).mono ?_; rintro e w7 ⟨A7a, c7a, D7a, d7a, A7b, c7b, D7b, d7b, rfl, O7a, O7b, O7c, O7d, B7⟩
  clear i0 i1 i2 i3 i4 i5
  clear j0 j1 j2 j3 j4 j5
  try dsimp only at O7a O7b O7c O7d
  have H_x2 : VN w7 w7.heap.size (.agg #[.bool sr.s, .slice A7a sr.a.length c7a, .slice D7a sr.b.length d7a, .bool si.s, .slice A7b si.a.length c7b, .slice D7b si.b.length d7b]) sr si := ⟨A7a, c7a, D7a, d7a, A7b, c7b, D7b, d7b, rfl, O7a.rw, O7b.rw, O7c.rw, O7d.rw⟩
  clear O7a O7b O7c O7d
  have S_a := S_a.nx B7
  have H_a := H_a.st B7
  have S_b := S_b.nx B7
  have H_b := H_b.st B7
  have S_x0 := S_x0.nx B7
  have H_x0 := H_x0.st B7
  have S_y0 := S_y0.nx B7
  have H_y0 := H_y0.st B7
  have S_x1 := S_x1.nx B7
  have H_x1 := H_x1.st B7
  have S_y1 := S_y1.nx B7
  have H_y1 := H_y1.st B7
  have C0 := bt C0 B7
  have L7 := bal w7 (.cells #[.bool sr.s, .slice A7a sr.a.length c7a, .slice D7a sr.b.length d7a, .bool si.s, .slice A7b si.a.length c7b, .slice D7b si.b.length d7b] 26)
  have S_x2 := SB.new w7 [.bool sr.s, .slice A7a sr.a.length c7a, .slice D7a sr.b.length d7a, .bool si.s, .slice A7b si.a.length c7b, .slice D7b si.b.length d7b] 26
  have S_a := S_a.nx L7
  have H_a := H_a.st L7
  have S_b := S_b.nx L7
  have H_b := H_b.st L7
  have S_x0 := S_x0.nx L7
  have H_x0 := H_x0.st L7
  have S_y0 := S_y0.nx L7
  have H_y0 := H_y0.st L7
  have S_x1 := S_x1.nx L7
  have H_x1 := H_x1.st L7
  have S_y1 := S_y1.nx L7
  have H_y1 := H_y1.st L7
  have H_x2 := H_x2.st L7
  have C0 := bt C0 L7
  have i0 := S_a.cell 0
  have i1 := S_a.cell 1
  have i2 := S_a.cell 2
  have i3 := S_a.cell 3
  have i4 := S_a.cell 4
  have i5 := S_a.cell 5
  have j0 := S_b.cell 0
  have j1 := S_b.cell 1
  have j2 := S_b.cell 2
  have j3 := S_b.cell 3
  have j4 := S_b.cell 4
  have j5 := S_b.cell 5
  go_wp2_with fail
  refine (o5 _ _ _ H_a H_b).mono ?_; rintro e w8 ⟨A8a, c8a, D8a, d8a, A8b, c8b, D8b, d8b, rfl, O8a, O8b, O8c, O8d, B8⟩
  clear i0 i1 i2 i3 i4 i5
  clear j0 j1 j2 j3 j4 j5
  try dsimp only at O8a O8b O8c O8d
  have H_y2 : VN w8 w8.heap.size (.agg #[.bool sr.s, .slice A8a sr.a.length c8a, .slice D8a sr.b.length d8a, .bool si.s, .slice A8b si.a.length c8b, .slice D8b si.b.length d8b]) sr si := ⟨A8a, c8a, D8a, d8a, A8b, c8b, D8b, d8b, rfl, O8a.rw, O8b.rw, O8c.rw, O8d.rw⟩
  clear O8a O8b O8c O8d
  have S_a := S_a.nx B8
  have H_a := H_a.st B8
  have S_b := S_b.nx B8
  have H_b := H_b.st B8
  have S_x0 := S_x0.nx B8
  have H_x0 := H_x0.st B8
  have S_y0 := S_y0.nx B8
  have H_y0 := H_y0.st B8
  have S_x1 := S_x1.nx B8
  have H_x1 := H_x1.st B8
  have S_y1 := S_y1.nx B8
  have H_y1 := H_y1.st B8
  have S_x2 := S_x2.nx B8
  have H_x2 := H_x2.st B8
  have C0 := bt C0 B8
  have L8 := bal w8 (.cells #[.bool sr.s, .slice A8a sr.a.length c8a, .slice D8a sr.b.length d8a, .bool si.s, .slice A8b si.a.length c8b, .slice D8b si.b.length d8b] 26)
  have S_y2 := SB.new w8 [.bool sr.s, .slice A8a sr.a.length c8a, .slice D8a sr.b.length d8a, .bool si.s, .slice A8b si.a.length c8b, .slice D8b si.b.length d8b] 26
  have S_a := S_a.nx L8
  have H_a := H_a.st L8
  have S_b := S_b.nx L8
  have H_b := H_b.st L8
  have S_x0 := S_x0.nx L8
  have H_x0 := H_x0.st L8
  have S_y0 := S_y0.nx L8
  have H_y0 := H_y0.st L8
  have S_x1 := S_x1.nx L8
  have H_x1 := H_x1.st L8
  have S_y1 := S_y1.nx L8
  have H_y1 := H_y1.st L8
  have S_x2 := S_x2.nx L8
  have H_x2 := H_x2.st L8
  have H_y2 := H_y2.st L8
  have C0 := bt C0 L8
  have i0 := S_a.cell 0
  have i1 := S_a.cell 1
  have i2 := S_a.cell 2
  have i3 := S_a.cell 3
  have i4 := S_a.cell 4
  have i5 := S_a.cell 5
  go_wp2_with fail
  refine (o6 _ _ H_a).mono ?_; rintro e w9 ⟨A9a, c9a, D9a, d9a, A9b, c9b, D9b, d9b, rfl, O9a, O9b, O9c, O9d, B9⟩
  clear i0 i1 i2 i3 i4 i5
  try dsimp only at O9a O9b O9c O9d
  have H_x3 : VN w9 w9.heap.size (.agg #[.bool nr.s, .slice A9a nr.a.length c9a, .slice D9a nr.b.length d9a, .bool ni.s, .slice A9b ni.a.length c9b, .slice D9b ni.b.length d9b]) nr ni := ⟨A9a, c9a, D9a, d9a, A9b, c9b, D9b, d9b, rfl, O9a.rw, O9b.rw, O9c.rw, O9d.rw⟩
  clear O9a O9b O9c O9d
  have S_a := S_a.nx B9
  have H_a := H_a.st B9
  have S_b := S_b.nx B9
  have H_b := H_b.st B9
  have S_x0 := S_x0.nx B9
  have H_x0 := H_x0.st B9
  have S_y0 := S_y0.nx B9
  have H_y0 := H_y0.st B9
  have S_x1 := S_x1.nx B9
  have H_x1 := H_x1.st B9
  have S_y1 := S_y1.nx B9
  have H_y1 := H_y1.st B9
  have S_x2 := S_x2.nx B9
  have H_x2 := H_x2.st B9
  have S_y2 := S_y2.nx B9
  have H_y2 := H_y2.st B9
  have C0 := bt C0 B9
  have L9 := bal w9 (.cells #[.bool nr.s, .slice A9a nr.a.length c9a, .slice D9a nr.b.length d9a, .bool ni.s, .slice A9b ni.a.length c9b, .slice D9b ni.b.length d9b] 26)
  have S_x3 := SB.new w9 [.bool nr.s, .slice A9a nr.a.length c9a, .slice D9a nr.b.length d9a, .bool ni.s, .slice A9b ni.a.length c9b, .slice D9b ni.b.length d9b] 26
  have S_a := S_a.nx L9
  have H_a := H_a.st L9
  have S_b := S_b.nx L9
  have H_b := H_b.st L9
  have S_x0 := S_x0.nx L9
  have H_x0 := H_x0.st L9
  have S_y0 := S_y0.nx L9
  have H_y0 := H_y0.st L9
  have S_x1 := S_x1.nx L9
  have H_x1 := H_x1.st L9
  have S_y1 := S_y1.nx L9
  have H_y1 := H_y1.st L9
  have S_x2 := S_x2.nx L9
  have H_x2 := H_x2.st L9
  have S_y2 := S_y2.nx L9
  have H_y2 := H_y2.st L9
  have H_x3 := H_x3.st L9
  have C0 := bt C0 L9
  have i0 := S_a.cell 0
  have i1 := S_a.cell 1
  have i2 := S_a.cell 2
  have i3 := S_a.cell 3
  have i4 := S_a.cell 4
  have i5 := S_a.cell 5
  go_wp2_with fail
  refine (o7 _ _ H_a).mono ?_; rintro e w10 ⟨A10a, c10a, D10a, d10a, A10b, c10b, D10b, d10b, rfl, O10a, O10b, O10c, O10d, B10⟩
  clear i0 i1 i2 i3 i4 i5
  try dsimp only at O10a O10b O10c O10d
  have H_y3 : VN w10 w10.heap.size (.agg #[.bool nr.s, .slice A10a nr.a.length c10a, .slice D10a nr.b.length d10a, .bool ni.s, .slice A10b ni.a.length c10b, .slice D10b ni.b.length d10b]) nr ni := ⟨A10a, c10a, D10a, d10a, A10b, c10b, D10b, d10b, rfl, O10a, O10b, O10c, O10d⟩
  clear O10a O10b O10c O10d
  have S_a := S_a.nx B10
  have H_a := H_a.st B10
  have S_b := S_b.nx B10
  have H_b := H_b.st B10
  have S_x0 := S_x0.nx B10
  have H_x0 := H_x0.st B10
  have S_y0 := S_y0.nx B10
  have H_y0 := H_y0.st B10
  have S_x1 := S_x1.nx B10
  have H_x1 := H_x1.st B10
  have S_y1 := S_y1.nx B10
  have H_y1 := H_y1.st B10
  have S_x2 := S_x2.nx B10
  have H_x2 := H_x2.st B10
  have S_y2 := S_y2.nx B10
  have H_y2 := H_y2.st B10
  have S_x3 := S_x3.nx B10
  have H_x3 := H_x3.st B10
  have C0 := bt C0 B10
  have L10 := bal w10 (.cells #[.bool nr.s, .slice A10a nr.a.length c10a, .slice D10a nr.b.length d10a, .bool ni.s, .slice A10b ni.a.length c10b, .slice D10b ni.b.length d10b] 26)
  have S_y3 := SB.new w10 [.bool nr.s, .slice A10a nr.a.length c10a, .slice D10a nr.b.length d10a, .bool ni.s, .slice A10b ni.a.length c10b, .slice D10b ni.b.length d10b] 26
  have S_a := S_a.nx L10
  have H_a := H_a.st L10
  have S_b := S_b.nx L10
  have H_b := H_b.st L10
  have S_x0 := S_x0.nx L10
  have H_x0 := H_x0.st L10
  have S_y0 := S_y0.nx L10
  have H_y0 := H_y0.st L10
  have S_x1 := S_x1.nx L10
  have H_x1 := H_x1.st L10
  have S_y1 := S_y1.nx L10
  have H_y1 := H_y1.st L10
  have S_x2 := S_x2.nx L10
  have H_x2 := H_x2.st L10
  have S_y2 := S_y2.nx L10
  have H_y2 := H_y2.st L10
  have S_x3 := S_x3.nx L10
  have H_x3 := H_x3.st L10
  have H_y3 := H_y3.st L10
  have C0 := bt C0 L10
  go_wp2_with fail
  refine (awake4_any _).mono ?_; rintro e w20 ⟨rfl, B20⟩
  have S_a := S_a.nx B20
  have H_a := H_a.st B20
  have S_b := S_b.nx B20
  have H_b := H_b.st B20
  have S_x0 := S_x0.nx B20
  have H_x0 := H_x0.st B20
  have S_y0 := S_y0.nx B20
  have H_y0 := H_y0.st B20
  have S_x1 := S_x1.nx B20
  have H_x1 := H_x1.st B20
  have S_y1 := S_y1.nx B20
  have H_y1 := H_y1.st B20
  have S_x2 := S_x2.nx B20
  have H_x2 := H_x2.st B20
  have S_y2 := S_y2.nx B20
  have H_y2 := H_y2.st B20
  have S_x3 := S_x3.nx B20
  have H_x3 := H_x3.st B20
  have S_y3 := S_y3.nx B20
  have H_y3 := H_y3.st B20
  have C0 := bt C0 B20
  have i0 := S_x0.cell 0
  have i1 := S_x0.cell 1
  have i2 := S_x0.cell 2
  have i3 := S_x0.cell 3
  have i4 := S_x0.cell 4
  have i5 := S_x0.cell 5
  have j0 := S_y0.cell 0
  have j1 := S_y0.cell 1
  have j2 := S_y0.cell 2
  have j3 := S_y0.cell 3
  have j4 := S_y0.cell 4
  have j5 := S_y0.cell 5
  go_wp2_with fail
  refine (l0 _ _ _ H_x0 H_y0).mono ?_; rintro e w21 ⟨rfl, B21⟩
  have S_a := S_a.nx B21
  have H_a := H_a.st B21
  have S_b := S_b.nx B21
  have H_b := H_b.st B21
  have S_x0 := S_x0.nx B21
  have H_x0 := H_x0.st B21
  have S_y0 := S_y0.nx B21
  have H_y0 := H_y0.st B21
  have S_x1 := S_x1.nx B21
  have H_x1 := H_x1.st B21
  have S_y1 := S_y1.nx B21
  have H_y1 := H_y1.st B21
  have S_x2 := S_x2.nx B21
  have H_x2 := H_x2.st B21
  have S_y2 := S_y2.nx B21
  have H_y2 := H_y2.st B21
  have S_x3 := S_x3.nx B21
  have H_x3 := H_x3.st B21
  have S_y3 := S_y3.nx B21
  have H_y3 := H_y3.st B21
  have C0 := bt C0 B21
  clear i0 i1 i2 i3 i4 i5
  clear j0 j1 j2 j3 j4 j5
  have i0 := S_x1.cell 0
  have i1 := S_x1.cell 1
  have i2 := S_x1.cell 2
  have i3 := S_x1.cell 3
  have i4 := S_x1.cell 4
  have i5 := S_x1.cell 5
  have j0 := S_y1.cell 0
  have j1 := S_y1.cell 1
  have j2 := S_y1.cell 2
  have j3 := S_y1.cell 3
  have j4 := S_y1.cell 4
  have j5 := S_y1.cell 5
  go_wp2_with fail
  refine (l1 _ _ _ H_x1 H_y1).mono ?_; rintro e w22 ⟨rfl, B22⟩
  have S_a := S_a.nx B22
  have H_a := H_a.st B22
  have S_b := S_b.nx B22
  have H_b := H_b.st B22
  have S_x0 := S_x0.nx B22
  have H_x0 := H_x0.st B22
  have S_y0 := S_y0.nx B22
  have H_y0 := H_y0.st B22
  have S_x1 := S_x1.nx B22
  have H_x1 := H_x1.st B22
  have S_y1 := S_y1.nx B22
  have H_y1 := H_y1.st B22
  have S_x2 := S_x2.nx B22
  have H_x2 := H_x2.st B22
  have S_y2 := S_y2.nx B22
  have H_y2 := H_y2.st B22
  have S_x3 := S_x3.nx B22
  have H_x3 := H_x3.st B22
  have S_y3 := S_y3.nx B22
  have H_y3 := H_y3.st B22
  have C0 := bt C0 B22
  clear i0 i1 i2 i3 i4 i5
  clear j0 j1 j2 j3 j4 j5
  have i0 := S_x2.cell 0
  have i1 := S_x2.cell 1
  have i2 := S_x2.cell 2
  have i3 := S_x2.cell 3
  have i4 := S_x2.cell 4
  have i5 := S_x2.cell 5
  have j0 := S_y2.cell 0
  have j1 := S_y2.cell 1
  have j2 := S_y2.cell 2
  have j3 := S_y2.cell 3
  have j4 := S_y2.cell 4
  have j5 := S_y2.cell 5
  go_wp2_with fail
  refine (l2 _ _ _ H_x2 H_y2).mono ?_; rintro e w23 ⟨rfl, B23⟩
  have S_a := S_a.nx B23
  have H_a := H_a.st B23
  have S_b := S_b.nx B23
  have H_b := H_b.st B23
  have S_x0 := S_x0.nx B23
  have H_x0 := H_x0.st B23
  have S_y0 := S_y0.nx B23
  have H_y0 := H_y0.st B23
  have S_x1 := S_x1.nx B23
  have H_x1 := H_x1.st B23
  have S_y1 := S_y1.nx B23
  have H_y1 := H_y1.st B23
  have S_x2 := S_x2.nx B23
  have H_x2 := H_x2.st B23
  have S_y2 := S_y2.nx B23
  have H_y2 := H_y2.st B23
  have S_x3 := S_x3.nx B23
  have H_x3 := H_x3.st B23
  have S_y3 := S_y3.nx B23
  have H_y3 := H_y3.st B23
  have C0 := bt C0 B23
  clear i0 i1 i2 i3 i4 i5
  clear j0 j1 j2 j3 j4 j5
  have i0 := S_x3.cell 0
  have i1 := S_x3.cell 1
  have i2 := S_x3.cell 2
  have i3 := S_x3.cell 3
  have i4 := S_x3.cell 4
  have i5 := S_x3.cell 5
  have j0 := S_y3.cell 0
  have j1 := S_y3.cell 1
  have j2 := S_y3.cell 2
  have j3 := S_y3.cell 3
  have j4 := S_y3.cell 4
  have j5 := S_y3.cell 5
  go_wp2_with fail
  refine (l3 _ _ _ H_x3 H_y3).mono ?_; rintro e w24 ⟨rfl, B24⟩
  have S_a := S_a.nx B24
  have H_a := H_a.st B24
  have S_b := S_b.nx B24
  have H_b := H_b.st B24
  have S_x0 := S_x0.nx B24
  have H_x0 := H_x0.st B24
  have S_y0 := S_y0.nx B24
  have H_y0 := H_y0.st B24
  have S_x1 := S_x1.nx B24
  have H_x1 := H_x1.st B24
  have S_y1 := S_y1.nx B24
  have H_y1 := H_y1.st B24
  have S_x2 := S_x2.nx B24
  have H_x2 := H_x2.st B24
  have S_y2 := S_y2.nx B24
  have H_y2 := H_y2.st B24
  have S_x3 := S_x3.nx B24
  have H_x3 := H_x3.st B24
  have S_y3 := S_y3.nx B24
  have H_y3 := H_y3.st B24
  have C0 := bt C0 B24
  clear i0 i1 i2 i3 i4 i5
  clear j0 j1 j2 j3 j4 j5
  go_wp2_with fail
  go_ret
  exact ⟨rfl, C0⟩
end Go.Proofs.Ytnlgoedklmjhlaa
