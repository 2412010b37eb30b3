/- Merged texts: BiG, BiH, Hold, BiI, BiJ, ExU, BiK, StepA. -/
import Derived.Test.YtbgggepdlkbpoaaGreatDoorGL
import Derived.Test.YtbgggepdlkbpoaaGreatDoorGM
import Derived.Test.YtbgggepdlkbpoaaGreatDoorGH
import Derived.StillTailTactics
import Derived.Deep.LoopGhost
import Derived.Test.YtbgggepdlkbpoaaGreatDoorGA
import Derived.Deep.RegionLaw
namespace Go.Proofs.YtbgggepdlkbpoaaGreatDoor
open Go.RowKit


set_option maxRecDepth 100000 in
set_option maxHeartbeats 16000000 in
theorem each_ok_Or (s1 s2 t1 t2 : Bool) (a1 b1 a2 b2 e1 f1 e2 f2 : List Nat) (A1 D1 A2 D2 E1 F1 E2 F2 : Option Addr) (c1 d1 c2 d2 j1 k1 j2 k2 : Nat) (w : World) (p1 : RW w w.heap.size A1 c1 a1) (p2 : RW w w.heap.size D1 d1 b1) (p3 : RW w w.heap.size A2 c2 a2) (p4 : RW w w.heap.size D2 d2 b2) (q1 : RW w w.heap.size E1 j1 e1) (q2 : RW w w.heap.size F1 k1 f1) (q3 : RW w w.heap.size E2 j2 e2) (q4 : RW w w.heap.size F2 k2 f2) (X Y : Int) (hX : Hid ((⟨s1, a1, b1⟩ : Rw) = rwq ((X : Int) : Rat) ∧ (⟨s2, a2, b2⟩ : Rw) = rwq 0)) (hY : Hid ((⟨t1, e1, f1⟩ : Rw) = rwq ((Y : Int) : Rat) ∧ (⟨t2, e2, f2⟩ : Rw) = rwq 0)) (lx : a1.length ≤ 512) (ly : e1.length ≤ 512) (hk : bchkN2 ⟨s1, a1, b1⟩ ⟨s2, a2, b2⟩ ⟨t1, e1, f1⟩ ⟨t2, e2, f2⟩ = 0) :
    Calls Tryz.prog 30 #[(.agg #[.bool s1, .slice A1 a1.length c1, .slice D1 b1.length d1, .bool s2, .slice A2 a2.length c2, .slice D2 b2.length d2]), (.agg #[.bool t1, .slice E1 e1.length j1, .slice F1 f1.length k1, .bool t2, .slice E2 e2.length j2, .slice F2 f2.length k2]), .func (.func 31) #[] #[]] w (RetNE w (fitQ ((rowOp (· ||| ·) (max a1.length e1.length + 1) X Y : Int) : Rat) 0)) := by
  have kk0 := S3.new w [.bool s1, .slice A1 a1.length c1, .slice D1 b1.length d1, .bool s2, .slice A2 a2.length c2, .slice D2 b2.length d2] [.bool t1, .slice E1 e1.length j1, .slice F1 f1.length k1, .bool t2, .slice E2 e2.length j2, .slice F2 f2.length k2] [.bool false, .slice none 0 0, .slice none 0 0, .bool false, .slice none 0 0, .slice none 0 0] 26 26 26 6
  have LB4 := bal (((w.alloc (.cells #[.bool s1, .slice A1 a1.length c1, .slice D1 b1.length d1, .bool s2, .slice A2 a2.length c2, .slice D2 b2.length d2] 26)).alloc (.cells #[.bool t1, .slice E1 e1.length j1, .slice F1 f1.length k1, .bool t2, .slice E2 e2.length j2, .slice F2 f2.length k2] 26)).alloc (.cells #[.bool false, .slice none 0 0, .slice none 0 0, .bool false, .slice none 0 0, .slice none 0 0] 26)) (.cells #[.bool s1, .slice A1 a1.length c1, .slice D1 b1.length d1, .bool s2, .slice A2 a2.length c2, .slice D2 b2.length d2, .bool t1, .slice E1 e1.length j1, .slice F1 f1.length k1, .bool t2, .slice E2 e2.length j2, .slice F2 f2.length k2] 26)
  have kk1 := kk0.nx LB4
  have SG := SB.new (((w.alloc (.cells #[.bool s1, .slice A1 a1.length c1, .slice D1 b1.length d1, .bool s2, .slice A2 a2.length c2, .slice D2 b2.length d2] 26)).alloc (.cells #[.bool t1, .slice E1 e1.length j1, .slice F1 f1.length k1, .bool t2, .slice E2 e2.length j2, .slice F2 f2.length k2] 26)).alloc (.cells #[.bool false, .slice none 0 0, .slice none 0 0, .bool false, .slice none 0 0, .slice none 0 0] 26)) [.bool s1, .slice A1 a1.length c1, .slice D1 b1.length d1, .bool s2, .slice A2 a2.length c2, .slice D2 b2.length d2, .bool t1, .slice E1 e1.length j1, .slice F1 f1.length k1, .bool t2, .slice E2 e2.length j2, .slice F2 f2.length k2] 26
  have z3 : (((w.alloc (.cells #[.bool s1, .slice A1 a1.length c1, .slice D1 b1.length d1, .bool s2, .slice A2 a2.length c2, .slice D2 b2.length d2] 26)).alloc (.cells #[.bool t1, .slice E1 e1.length j1, .slice F1 f1.length k1, .bool t2, .slice E2 e2.length j2, .slice F2 f2.length k2] 26)).alloc (.cells #[.bool false, .slice none 0 0, .slice none 0 0, .bool false, .slice none 0 0, .slice none 0 0] 26)).heap.size = w.heap.size + 3 := by simp
  rw [z3] at SG
  have hC := fun w' hg h1 h2 h3 h4 g1 g2 g3 g4 => bcheck2_any (w.heap.size + 3) s1 a1 b1 s2 a2 b2 A1 c1 D1 d1 A2 c2 D2 d2 t1 e1 f1 t2 e2 f2 E1 j1 F1 k1 E2 j2 F2 k2 w' hg h1 h2 h3 h4 g1 g2 g3 g4
  have BW := kk1.2.2.2
  obtain ⟨W, hW⟩ : ∃ W, W = (((w.alloc (.cells #[.bool s1, .slice A1 a1.length c1, .slice D1 b1.length d1, .bool s2, .slice A2 a2.length c2, .slice D2 b2.length d2] 26)).alloc (.cells #[.bool t1, .slice E1 e1.length j1, .slice F1 f1.length k1, .bool t2, .slice E2 e2.length j2, .slice F2 f2.length k2] 26)).alloc (.cells #[.bool false, .slice none 0 0, .slice none 0 0, .bool false, .slice none 0 0, .slice none 0 0] 26)).alloc (.cells #[.bool s1, .slice A1 a1.length c1, .slice D1 b1.length d1, .bool s2, .slice A2 a2.length c2, .slice D2 b2.length d2, .bool t1, .slice E1 e1.length j1, .slice F1 f1.length k1, .bool t2, .slice E2 e2.length j2, .slice F2 f2.length k2] 26) := ⟨_, rfl⟩
  have i0 := kk0.1.cell 0
  have i1 := kk0.1.cell 1
  have i2 := kk0.1.cell 2
  have i3 := kk0.1.cell 3
  have i4 := kk0.1.cell 4
  have i5 := kk0.1.cell 5
  have j0 := kk0.2.1.cell 0
  have j1' := kk0.2.1.cell 1
  have j2' := kk0.2.1.cell 2
  have j3 := kk0.2.1.cell 3
  have j4 := kk0.2.1.cell 4
  have j5 := kk0.2.1.cell 5
  simp only [hk] at hC
  clear hk
  obtain ⟨M, hM⟩ : ∃ M : Nat, Hid (max a1.length e1.length = M) := ⟨_, rfl⟩
  have m1 : a1.length ≤ M := by have := hM.out; omega
  have m2 : e1.length ≤ M := by have := hM.out; omega
  have m3 : M ≤ 512 := by have := hM.out; omega
  have hmx : max (a1.length : Int) (e1.length : Int) = (M : Int) := by have := hM.out; omega
  have ex : a1 = digs X.natAbs := congrArg Rw.a hX.out.1
  have ey : e1 = digs Y.natAbs := congrArg Rw.a hY.out.1
  have hRX : ∀ V w', VN w' w'.heap.size V ⟨s1, a1, b1⟩ ⟨s2, a2, b2⟩ → Calls Tryz.prog 28 #[V, .int .i64 ((M : Int) + 1)] w' fun e w'' => ∃ g, e = .returned (.slice (some ⟨g, 0, none⟩) (M + 1) (M + 1)) ∧ OW w'' w'.heap.size (some ⟨g, 0, none⟩) (M + 1) (rowI (M + 1) X) ∧ Below w'.heap.size w' w'' := fun V w' hv => by
    rw [hX.out.1, hX.out.2] at hv
    exact row_any V X (M + 1) w' hv (by rw [← ex]; omega) (by omega) (by omega)
  have hRY : ∀ V w', VN w' w'.heap.size V ⟨t1, e1, f1⟩ ⟨t2, e2, f2⟩ → Calls Tryz.prog 28 #[V, .int .i64 ((M : Int) + 1)] w' fun e w'' => ∃ g, e = .returned (.slice (some ⟨g, 0, none⟩) (M + 1) (M + 1)) ∧ OW w'' w'.heap.size (some ⟨g, 0, none⟩) (M + 1) (rowI (M + 1) Y) ∧ Below w'.heap.size w' w'' := fun V w' hv => by
    rw [hY.out.1, hY.out.2] at hv
    exact row_any V Y (M + 1) w' hv (by rw [← ey]; omega) (by omega) (by omega)
  rw [hM.out]
  have EX := Lib.hid ex
  have EY := Lib.hid ey
  clear ex ey
  go_enter Tryz.func30, Tryz.ntmps30
  go_wp2_with fail
  rw [← hW] at kk1 SG BW ⊢
  clear hW kk0 i0 i1 i2 i3 i4 i5 j0 j1' j2' j3 j4 j5
  refine (hC W SG (st p1 BW) (st p2 BW) (st p3 BW) (st p4 BW) (st q1 BW) (st q2 BW) (st q3 BW) (st q4 BW)).mono ?_; rintro e w5 ⟨rfl, B5⟩
  clear hC SG LB4
  have kk5 := kk1.nx B5
  have i1 := kk5.1.cell 1
  have j1' := kk5.2.1.cell 1
  go_upto_region 5 with fail
  clear i1 j1' hmx
  have kk5d := kk5.dr
  have kk5s := And.intro (kk5d.1.cell 0) (And.intro (kk5d.1.cell 1) (And.intro (kk5d.1.cell 2) (And.intro (kk5d.1.cell 3) (And.intro (kk5d.1.cell 4) (And.intro (kk5d.1.cell 5) (And.intro (kk5d.2.1.cell 0) (And.intro (kk5d.2.1.cell 1) (And.intro (kk5d.2.1.cell 2) (And.intro (kk5d.2.1.cell 3) (And.intro (kk5d.2.1.cell 4) (And.intro (kk5d.2.1.cell 5) (kk5d))))))))))))
  go_region_held3 (fun w' => w'.cell? ⟨w.heap.size, 0, none⟩ = some (.bool s1) ∧ w'.cell? ⟨w.heap.size, 1, none⟩ = some (.slice A1 a1.length c1) ∧ w'.cell? ⟨w.heap.size, 2, none⟩ = some (.slice D1 b1.length d1) ∧ w'.cell? ⟨w.heap.size, 3, none⟩ = some (.bool s2) ∧ w'.cell? ⟨w.heap.size, 4, none⟩ = some (.slice A2 a2.length c2) ∧ w'.cell? ⟨w.heap.size, 5, none⟩ = some (.slice D2 b2.length d2) ∧ w'.cell? ⟨w.heap.size + 1, 0, none⟩ = some (.bool t1) ∧ w'.cell? ⟨w.heap.size + 1, 1, none⟩ = some (.slice E1 e1.length j1) ∧ w'.cell? ⟨w.heap.size + 1, 2, none⟩ = some (.slice F1 f1.length k1) ∧ w'.cell? ⟨w.heap.size + 1, 3, none⟩ = some (.bool t2) ∧ w'.cell? ⟨w.heap.size + 1, 4, none⟩ = some (.slice E2 e2.length j2) ∧ w'.cell? ⟨w.heap.size + 1, 5, none⟩ = some (.slice F2 f2.length k2) ∧ S3 w w.heap.size [.bool s1, .slice A1 a1.length c1, .slice D1 b1.length d1, .bool s2, .slice A2 a2.length c2, .slice D2 b2.length d2] [.bool t1, .slice E1 e1.length j1, .slice F1 f1.length k1, .bool t2, .slice E2 e2.length j2, .slice F2 f2.length k2] 6 w')
    (first
      | with_reducible exact kk5s
      | (have s1 := (by with_reducible assumption : _ ∧ _ ∧ _ ∧ _ ∧ _ ∧ _ ∧ _ ∧ _ ∧ _ ∧ _ ∧ _ ∧ _ ∧ S3 w w.heap.size [.bool s1, .slice A1 a1.length c1, .slice D1 b1.length d1, .bool s2, .slice A2 a2.length c2, .slice D2 b2.length d2] [.bool t1, .slice E1 e1.length j1, .slice F1 f1.length k1, .bool t2, .slice E2 e2.length j2, .slice F2 f2.length k2] 6 _).2.2.2.2.2.2.2.2.2.2.2.2.nx BX; have q0_ := s1.1.cell 0; have q1_ := s1.1.cell 1; have q2_ := s1.1.cell 2; have q3_ := s1.1.cell 3; have q4_ := s1.1.cell 4; have q5_ := s1.1.cell 5; have q6_ := s1.2.1.cell 0; have q7_ := s1.2.1.cell 1; have q8_ := s1.2.1.cell 2; have q9_ := s1.2.1.cell 3; have q10_ := s1.2.1.cell 4; have q11_ := s1.2.1.cell 5; with_reducible exact ⟨q0_, q1_, q2_, q3_, q4_, q5_, q6_, q7_, q8_, q9_, q10_, q11_, s1⟩))
    (first
      | (go_at_call_of 28 (Value.agg #[.bool s1, .slice A1 a1.length c1, .slice D1 b1.length d1, .bool s2, .slice A2 a2.length c2, .slice D2 b2.length d2]); have hh := (by with_reducible assumption : _ ∧ _ ∧ _ ∧ _ ∧ _ ∧ _ ∧ _ ∧ _ ∧ _ ∧ _ ∧ _ ∧ _ ∧ S3 w w.heap.size [.bool s1, .slice A1 a1.length c1, .slice D1 b1.length d1, .bool s2, .slice A2 a2.length c2, .slice D2 b2.length d2] [.bool t1, .slice E1 e1.length j1, .slice F1 f1.length k1, .bool t2, .slice E2 e2.length j2, .slice F2 f2.length k2] 6 _).2.2.2.2.2.2.2.2.2.2.2.2; refine (hRX _ _ (vns p1 p2 p3 p4 hh.2.2.2)).mono ?_; rintro e w21 ⟨g1, rfl, O1, BX⟩; have B21 := BX; have sz21 := hh.2.2.1.2)
      | (go_at_call_of 28 (Value.agg #[.bool t1, .slice E1 e1.length j1, .slice F1 f1.length k1, .bool t2, .slice E2 e2.length j2, .slice F2 f2.length k2]); have hh := (by with_reducible assumption : _ ∧ _ ∧ _ ∧ _ ∧ _ ∧ _ ∧ _ ∧ _ ∧ _ ∧ _ ∧ _ ∧ _ ∧ S3 w w.heap.size [.bool s1, .slice A1 a1.length c1, .slice D1 b1.length d1, .bool s2, .slice A2 a2.length c2, .slice D2 b2.length d2] [.bool t1, .slice E1 e1.length j1, .slice F1 f1.length k1, .bool t2, .slice E2 e2.length j2, .slice F2 f2.length k2] 6 _).2.2.2.2.2.2.2.2.2.2.2.2; refine (hRY _ _ (vns q1 q2 q3 q4 hh.2.2.2)).mono ?_; rintro e w22 ⟨g2, rfl, O2, BX⟩; have B22 := BX; have kk := hh.nx BX))
  have hz22 := B21.size
  have P1 := (O1.below B22 (Nat.le_refl _)).base_le (B := w.heap.size + 3) (by omega)
  have P2 := O2.base_le (B := w.heap.size + 3) (by omega)
  have hne : g1 ≠ g2 := by have := O1.lt.2; have := O2.lt.1; omega
  have RR := kk.2.2.1
  have BB := kk.2.2.2
  clear O1 O2 B21 B22 kk hRX hRY p1 p2 p3 p4 q1 q2 q3 q4 kk1 kk5 B5 BW z3 kk5d kk5s
  obtain ⟨rx, hrx⟩ : ∃ rx, Hid (rowI (M + 1) X = rx) := ⟨_, rfl⟩
  obtain ⟨ry, hry⟩ : ∃ ry, Hid (rowI (M + 1) Y = ry) := ⟨_, rfl⟩
  rw [hrx.out] at P1
  rw [hry.out] at P2
  have hlx : rx.length = M + 1 := by rw [← hrx.out]; exact rowI_len _ _
  have hly : ry.length = M + 1 := by rw [← hry.out]; exact rowI_len _ _
  have HLX := Lib.hid hlx
  have HLY := Lib.hid hly
  have bx := P1.b32
  have by_ := P2.b32
  clear hlx hly
  go_wp2_with fail
  go_loopg [39] (M + 1) (fun gg iv wr => ∃ (k : Nat) (o : List Nat), k ≤ M + 1 ∧ M + 1 - k = gg ∧ iv = .int .i64 (k : Int) ∧ OW wr (w.heap.size + 3) (some ⟨g1, 0, none⟩) (M + 1) o ∧ OW wr (w.heap.size + 3) (some ⟨g2, 0, none⟩) (M + 1) ry ∧
    Hid (o.length = M + 1 ∧ (∀ j, k ≤ j → wd o j = wd rx j) ∧ (∀ j, j < k → wd o j = wd rx j ||| wd ry j)) ∧ RC wr (w.heap.size + 2) 6 ∧ Below w.heap.size w wr)
  case atStart => exact ⟨0, rx, Nat.zero_le _, rfl, rfl, P1, P2, Lib.hid ⟨HLX.out, fun _ _ => rfl, fun j hj => by omega⟩, RR, BB⟩
  case round =>
    obtain ⟨k, o, hk, rfl, rfl, Q1, Q2, hI, RR2, BB2⟩ := hrel
    by_cases hk0 : k < M + 1
    · obtain ⟨hol, hrest, hdone⟩ := hI.out
      have cx := Q1.cell (k := k) (by omega)
      rw [hrest k (Nat.le_refl _)] at cx
      have cy := Q2.cell (k := k) (by have := HLY.out; omega)
      have fx := Q1.frozen k
      have hxl := wd_lt bx k
      have hyl := wd_lt by_ k
      have hgl := (bitOp_or (wd rx k) (wd ry k) hxl hyl).1
      have hset := Q1.set k hgl
      have hl1 := Q1.lt.1
      have Q2' := Q2.far (p := ⟨g1, k, none⟩) (fun g' hA => by cases hA; show g2 ≠ g1; omega) (.int .u32 ((wd rx k ||| wd ry k : Nat) : Int))
      have RR2' := (RR2.sb.far (p := ⟨g1, k, none⟩) (by show w.heap.size + 2 ≠ g1; omega) (.int .u32 ((wd rx k ||| wd ry k : Nat) : Int))).rc (n := 6)
      have BB2' := BB2.setCell (p := ⟨g1, k, none⟩) (by show w.heap.size ≤ g1; omega) (.int .u32 ((wd rx k ||| wd ry k : Nat) : Int))
      have HI : Hid ((o.set k (wd rx k ||| wd ry k)).length = M + 1 ∧ (∀ j, k + 1 ≤ j → wd (o.set k (wd rx k ||| wd ry k)) j = wd rx j) ∧ (∀ j, j < k + 1 → wd (o.set k (wd rx k ||| wd ry k)) j = wd rx j ||| wd ry j)) := by
        refine ⟨by rw [List.length_set]; exact hol, fun j hj => by rw [wd_set_ne (by omega)]; exact hrest j (by omega), fun j hj => ?_⟩
        by_cases e : j = k
        · subst e; exact wd_set_eq (by omega)
        · rw [wd_set_ne (by omega)]; exact hdone j (by omega)
      have hcl := fun (v : World) => (or1_any (wd rx k) (wd ry k) v hxl hyl).mono (fun e (w' : World) (h : e = _ ∧ v = w') => (⟨h.1, h.2.symm⟩ : e = _ ∧ w' = v))
      clear hol hrest hdone hI bx by_
      go_wp2_with fail
      refine wp_region_still_tail 13 (by kernel_rfl) (by kernel_rfl) ?_
      simp only [List.take_succ_cons, List.take_zero, List.drop_succ_cons, List.drop_zero]
      repeat still_step
      still_call (hcl _)
      repeat still_step
      try refine wpStill_nil ?_
      go_wp2_with fail
      go_roundg (M + 1 - (k + 1))
      case measure => omega
      case rel => exact ⟨k + 1, _, by omega, rfl, by go_num, hset, Q2', HI, RR2', bdN BB2' 1⟩
    · obtain rfl : k = M + 1 := by omega
      have ho : o = List.zipWith (· ||| ·) rx ry := by
        obtain ⟨hol, hrest, hdone⟩ := hI.out
        have hzl : (List.zipWith (· ||| ·) rx ry).length = M + 1 := by rw [zip_len (by rw [HLX.out, HLY.out])]; exact HLX.out
        refine List.ext_getElem (by omega) (fun j h1 h2 => ?_)
        have e1 := hdone j (by omega)
        have e2 := zip_wd (g := (· ||| ·)) (a := rx) (b := ry) (by rw [HLX.out, HLY.out]) (k := j) (by rw [HLX.out]; omega)
        have e3 := e1.trans e2.symm
        unfold wd at e3
        rwa [List.getD_eq_getElem?_getD, List.getD_eq_getElem?_getD, List.getElem?_eq_getElem h1, List.getElem?_eq_getElem h2] at e3
      have hol := hI.out.1
      have hN := bnum_any g1 (M + 1) o wr (w.heap.size + 3) Q1 (by omega) (by omega) (by have := RR2.2; omega)
      have hval : Hid (tcI (32 * o.length) (val o) = rowOp (· ||| ·) (M + 1) X Y) := by
        show _ = _
        rw [hol, ho, ← hrx.out, ← hry.out]; rfl
      rw [hval.out, hol] at hN
      clear hol ho hI hval hk0
      obtain ⟨R, hR⟩ : ∃ R, Hid (fitQ ((rowOp (· ||| ·) (M + 1) X Y : Int) : Rat) 0 = R) := ⟨_, rfl⟩
      rw [hR.out] at hN
      obtain ⟨fr, fi, fk⟩ := R
      go_wp2_with fail
      refine hN.mono ?_; rintro e w5 ⟨H1, h1, I1, i1, H2, h2, I2, i2, rfl, O1, O2, O3, O4, B5⟩
      dsimp only at O1 O2 O3 O4
      have hRC := (RR2.sb.below B5 (by omega)).rc (n := 6)
      have BB5 := BB2.trans (B5.mono (by omega))
      go_wp2_with (refine wp_st6 rfl (.tmp 6) (.tmp 58) rfl _ rfl _ _ _ _ _ _ rfl hRC rfl rfl rfl rfl rfl rfl ?_)
      have s6 := hRC.put6 (.bool fr.s) (.slice H1 fr.a.length h1) (.slice I1 fr.b.length i1) (.bool fi.s) (.slice H2 fi.a.length h2) (.slice I2 fi.b.length i2)
      have B6 := wr6_below (b := w.heap.size + 2) BB5 (by omega) (.bool fr.s) (.slice H1 fr.a.length h1) (.slice I1 fr.b.length i1) (.bool fi.s) (.slice H2 fi.a.length h2) (.slice I2 fi.b.length i2)
      have Oa := O1.put6 (b := w.heap.size + 2) (by omega) (.bool fr.s) (.slice H1 fr.a.length h1) (.slice I1 fr.b.length i1) (.bool fi.s) (.slice H2 fi.a.length h2) (.slice I2 fi.b.length i2)
      have Ob := O2.put6 (b := w.heap.size + 2) (by omega) (.bool fr.s) (.slice H1 fr.a.length h1) (.slice I1 fr.b.length i1) (.bool fi.s) (.slice H2 fi.a.length h2) (.slice I2 fi.b.length i2)
      have Oc := O3.put6 (b := w.heap.size + 2) (by omega) (.bool fr.s) (.slice H1 fr.a.length h1) (.slice I1 fr.b.length i1) (.bool fi.s) (.slice H2 fi.a.length h2) (.slice I2 fi.b.length i2)
      have Od := O4.put6 (b := w.heap.size + 2) (by omega) (.bool fr.s) (.slice H1 fr.a.length h1) (.slice I1 fr.b.length i1) (.bool fi.s) (.slice H2 fi.a.length h2) (.slice I2 fi.b.length i2)
      have r0' := s6.cell 0
      have r1' := s6.cell 1
      have r2' := s6.cell 2
      have r3' := s6.cell 3
      have r4' := s6.cell 4
      have r5' := s6.cell 5
      refine bodyPost_ret (v := .tuple #[.agg #[.bool fr.s, .slice H1 fr.a.length h1, .slice I1 fr.b.length i1, .bool fi.s, .slice H2 fi.a.length h2, .slice I2 fi.b.length i2], .int .i64 fk]) (by simp [results, r0', r1', r2', r3', r4', r5', go_sem]) rfl ?_
      rw [hR.out]
      exact ⟨H1, h1, I1, i1, H2, h2, I2, i2, rfl, Oa.base_le (by omega), Ob.base_le (by omega), Oc.base_le (by omega), Od.base_le (by omega), B6⟩


set_option maxRecDepth 100000 in
set_option maxHeartbeats 16000000 in
theorem each_ok_Not (s1 s2 t1 t2 : Bool) (a1 b1 a2 b2 e1 f1 e2 f2 : List Nat) (A1 D1 A2 D2 E1 F1 E2 F2 : Option Addr) (c1 d1 c2 d2 j1 k1 j2 k2 : Nat) (w : World) (p1 : RW w w.heap.size A1 c1 a1) (p2 : RW w w.heap.size D1 d1 b1) (p3 : RW w w.heap.size A2 c2 a2) (p4 : RW w w.heap.size D2 d2 b2) (q1 : RW w w.heap.size E1 j1 e1) (q2 : RW w w.heap.size F1 k1 f1) (q3 : RW w w.heap.size E2 j2 e2) (q4 : RW w w.heap.size F2 k2 f2) (X Y : Int) (hX : Hid ((⟨s1, a1, b1⟩ : Rw) = rwq ((X : Int) : Rat) ∧ (⟨s2, a2, b2⟩ : Rw) = rwq 0)) (hY : Hid ((⟨t1, e1, f1⟩ : Rw) = rwq ((Y : Int) : Rat) ∧ (⟨t2, e2, f2⟩ : Rw) = rwq 0)) (lx : a1.length ≤ 512) (ly : e1.length ≤ 512) (hk : bchkN2 ⟨s1, a1, b1⟩ ⟨s2, a2, b2⟩ ⟨t1, e1, f1⟩ ⟨t2, e2, f2⟩ = 0) :
    Calls Tryz.prog 30 #[(.agg #[.bool s1, .slice A1 a1.length c1, .slice D1 b1.length d1, .bool s2, .slice A2 a2.length c2, .slice D2 b2.length d2]), (.agg #[.bool t1, .slice E1 e1.length j1, .slice F1 f1.length k1, .bool t2, .slice E2 e2.length j2, .slice F2 f2.length k2]), .func (.func 42) #[] #[]] w (RetNE w (fitQ ((rowOp (fun x _ => 4294967295 - x) (max a1.length e1.length + 1) X Y : Int) : Rat) 0)) := by
  have kk0 := S3.new w [.bool s1, .slice A1 a1.length c1, .slice D1 b1.length d1, .bool s2, .slice A2 a2.length c2, .slice D2 b2.length d2] [.bool t1, .slice E1 e1.length j1, .slice F1 f1.length k1, .bool t2, .slice E2 e2.length j2, .slice F2 f2.length k2] [.bool false, .slice none 0 0, .slice none 0 0, .bool false, .slice none 0 0, .slice none 0 0] 26 26 26 6
  have LB4 := bal (((w.alloc (.cells #[.bool s1, .slice A1 a1.length c1, .slice D1 b1.length d1, .bool s2, .slice A2 a2.length c2, .slice D2 b2.length d2] 26)).alloc (.cells #[.bool t1, .slice E1 e1.length j1, .slice F1 f1.length k1, .bool t2, .slice E2 e2.length j2, .slice F2 f2.length k2] 26)).alloc (.cells #[.bool false, .slice none 0 0, .slice none 0 0, .bool false, .slice none 0 0, .slice none 0 0] 26)) (.cells #[.bool s1, .slice A1 a1.length c1, .slice D1 b1.length d1, .bool s2, .slice A2 a2.length c2, .slice D2 b2.length d2, .bool t1, .slice E1 e1.length j1, .slice F1 f1.length k1, .bool t2, .slice E2 e2.length j2, .slice F2 f2.length k2] 26)
  have kk1 := kk0.nx LB4
  have SG := SB.new (((w.alloc (.cells #[.bool s1, .slice A1 a1.length c1, .slice D1 b1.length d1, .bool s2, .slice A2 a2.length c2, .slice D2 b2.length d2] 26)).alloc (.cells #[.bool t1, .slice E1 e1.length j1, .slice F1 f1.length k1, .bool t2, .slice E2 e2.length j2, .slice F2 f2.length k2] 26)).alloc (.cells #[.bool false, .slice none 0 0, .slice none 0 0, .bool false, .slice none 0 0, .slice none 0 0] 26)) [.bool s1, .slice A1 a1.length c1, .slice D1 b1.length d1, .bool s2, .slice A2 a2.length c2, .slice D2 b2.length d2, .bool t1, .slice E1 e1.length j1, .slice F1 f1.length k1, .bool t2, .slice E2 e2.length j2, .slice F2 f2.length k2] 26
  have z3 : (((w.alloc (.cells #[.bool s1, .slice A1 a1.length c1, .slice D1 b1.length d1, .bool s2, .slice A2 a2.length c2, .slice D2 b2.length d2] 26)).alloc (.cells #[.bool t1, .slice E1 e1.length j1, .slice F1 f1.length k1, .bool t2, .slice E2 e2.length j2, .slice F2 f2.length k2] 26)).alloc (.cells #[.bool false, .slice none 0 0, .slice none 0 0, .bool false, .slice none 0 0, .slice none 0 0] 26)).heap.size = w.heap.size + 3 := by simp
  rw [z3] at SG
  have hC := fun w' hg h1 h2 h3 h4 g1 g2 g3 g4 => bcheck2_any (w.heap.size + 3) s1 a1 b1 s2 a2 b2 A1 c1 D1 d1 A2 c2 D2 d2 t1 e1 f1 t2 e2 f2 E1 j1 F1 k1 E2 j2 F2 k2 w' hg h1 h2 h3 h4 g1 g2 g3 g4
  have BW := kk1.2.2.2
  obtain ⟨W, hW⟩ : ∃ W, W = (((w.alloc (.cells #[.bool s1, .slice A1 a1.length c1, .slice D1 b1.length d1, .bool s2, .slice A2 a2.length c2, .slice D2 b2.length d2] 26)).alloc (.cells #[.bool t1, .slice E1 e1.length j1, .slice F1 f1.length k1, .bool t2, .slice E2 e2.length j2, .slice F2 f2.length k2] 26)).alloc (.cells #[.bool false, .slice none 0 0, .slice none 0 0, .bool false, .slice none 0 0, .slice none 0 0] 26)).alloc (.cells #[.bool s1, .slice A1 a1.length c1, .slice D1 b1.length d1, .bool s2, .slice A2 a2.length c2, .slice D2 b2.length d2, .bool t1, .slice E1 e1.length j1, .slice F1 f1.length k1, .bool t2, .slice E2 e2.length j2, .slice F2 f2.length k2] 26) := ⟨_, rfl⟩
  have i0 := kk0.1.cell 0
  have i1 := kk0.1.cell 1
  have i2 := kk0.1.cell 2
  have i3 := kk0.1.cell 3
  have i4 := kk0.1.cell 4
  have i5 := kk0.1.cell 5
  have j0 := kk0.2.1.cell 0
  have j1' := kk0.2.1.cell 1
  have j2' := kk0.2.1.cell 2
  have j3 := kk0.2.1.cell 3
  have j4 := kk0.2.1.cell 4
  have j5 := kk0.2.1.cell 5
  simp only [hk] at hC
  clear hk
  obtain ⟨M, hM⟩ : ∃ M : Nat, Hid (max a1.length e1.length = M) := ⟨_, rfl⟩
  have m1 : a1.length ≤ M := by have := hM.out; omega
  have m2 : e1.length ≤ M := by have := hM.out; omega
  have m3 : M ≤ 512 := by have := hM.out; omega
  have hmx : max (a1.length : Int) (e1.length : Int) = (M : Int) := by have := hM.out; omega
  have ex : a1 = digs X.natAbs := congrArg Rw.a hX.out.1
  have ey : e1 = digs Y.natAbs := congrArg Rw.a hY.out.1
  have hRX : ∀ V w', VN w' w'.heap.size V ⟨s1, a1, b1⟩ ⟨s2, a2, b2⟩ → Calls Tryz.prog 28 #[V, .int .i64 ((M : Int) + 1)] w' fun e w'' => ∃ g, e = .returned (.slice (some ⟨g, 0, none⟩) (M + 1) (M + 1)) ∧ OW w'' w'.heap.size (some ⟨g, 0, none⟩) (M + 1) (rowI (M + 1) X) ∧ Below w'.heap.size w' w'' := fun V w' hv => by
    rw [hX.out.1, hX.out.2] at hv
    exact row_any V X (M + 1) w' hv (by rw [← ex]; omega) (by omega) (by omega)
  have hRY : ∀ V w', VN w' w'.heap.size V ⟨t1, e1, f1⟩ ⟨t2, e2, f2⟩ → Calls Tryz.prog 28 #[V, .int .i64 ((M : Int) + 1)] w' fun e w'' => ∃ g, e = .returned (.slice (some ⟨g, 0, none⟩) (M + 1) (M + 1)) ∧ OW w'' w'.heap.size (some ⟨g, 0, none⟩) (M + 1) (rowI (M + 1) Y) ∧ Below w'.heap.size w' w'' := fun V w' hv => by
    rw [hY.out.1, hY.out.2] at hv
    exact row_any V Y (M + 1) w' hv (by rw [← ey]; omega) (by omega) (by omega)
  rw [hM.out]
  have EX := Lib.hid ex
  have EY := Lib.hid ey
  clear ex ey
  go_enter Tryz.func30, Tryz.ntmps30
  go_wp2_with fail
  rw [← hW] at kk1 SG BW ⊢
  clear hW kk0 i0 i1 i2 i3 i4 i5 j0 j1' j2' j3 j4 j5
  refine (hC W SG (st p1 BW) (st p2 BW) (st p3 BW) (st p4 BW) (st q1 BW) (st q2 BW) (st q3 BW) (st q4 BW)).mono ?_; rintro e w5 ⟨rfl, B5⟩
  clear hC SG LB4
  have kk5 := kk1.nx B5
  have i1 := kk5.1.cell 1
  have j1' := kk5.2.1.cell 1
  go_upto_region 5 with fail
  clear i1 j1' hmx
  have kk5d := kk5.dr
  have kk5s := And.intro (kk5d.1.cell 0) (And.intro (kk5d.1.cell 1) (And.intro (kk5d.1.cell 2) (And.intro (kk5d.1.cell 3) (And.intro (kk5d.1.cell 4) (And.intro (kk5d.1.cell 5) (And.intro (kk5d.2.1.cell 0) (And.intro (kk5d.2.1.cell 1) (And.intro (kk5d.2.1.cell 2) (And.intro (kk5d.2.1.cell 3) (And.intro (kk5d.2.1.cell 4) (And.intro (kk5d.2.1.cell 5) (kk5d))))))))))))
  go_region_held3 (fun w' => w'.cell? ⟨w.heap.size, 0, none⟩ = some (.bool s1) ∧ w'.cell? ⟨w.heap.size, 1, none⟩ = some (.slice A1 a1.length c1) ∧ w'.cell? ⟨w.heap.size, 2, none⟩ = some (.slice D1 b1.length d1) ∧ w'.cell? ⟨w.heap.size, 3, none⟩ = some (.bool s2) ∧ w'.cell? ⟨w.heap.size, 4, none⟩ = some (.slice A2 a2.length c2) ∧ w'.cell? ⟨w.heap.size, 5, none⟩ = some (.slice D2 b2.length d2) ∧ w'.cell? ⟨w.heap.size + 1, 0, none⟩ = some (.bool t1) ∧ w'.cell? ⟨w.heap.size + 1, 1, none⟩ = some (.slice E1 e1.length j1) ∧ w'.cell? ⟨w.heap.size + 1, 2, none⟩ = some (.slice F1 f1.length k1) ∧ w'.cell? ⟨w.heap.size + 1, 3, none⟩ = some (.bool t2) ∧ w'.cell? ⟨w.heap.size + 1, 4, none⟩ = some (.slice E2 e2.length j2) ∧ w'.cell? ⟨w.heap.size + 1, 5, none⟩ = some (.slice F2 f2.length k2) ∧ S3 w w.heap.size [.bool s1, .slice A1 a1.length c1, .slice D1 b1.length d1, .bool s2, .slice A2 a2.length c2, .slice D2 b2.length d2] [.bool t1, .slice E1 e1.length j1, .slice F1 f1.length k1, .bool t2, .slice E2 e2.length j2, .slice F2 f2.length k2] 6 w')
    (first
      | with_reducible exact kk5s
      | (have s1 := (by with_reducible assumption : _ ∧ _ ∧ _ ∧ _ ∧ _ ∧ _ ∧ _ ∧ _ ∧ _ ∧ _ ∧ _ ∧ _ ∧ S3 w w.heap.size [.bool s1, .slice A1 a1.length c1, .slice D1 b1.length d1, .bool s2, .slice A2 a2.length c2, .slice D2 b2.length d2] [.bool t1, .slice E1 e1.length j1, .slice F1 f1.length k1, .bool t2, .slice E2 e2.length j2, .slice F2 f2.length k2] 6 _).2.2.2.2.2.2.2.2.2.2.2.2.nx BX; have q0_ := s1.1.cell 0; have q1_ := s1.1.cell 1; have q2_ := s1.1.cell 2; have q3_ := s1.1.cell 3; have q4_ := s1.1.cell 4; have q5_ := s1.1.cell 5; have q6_ := s1.2.1.cell 0; have q7_ := s1.2.1.cell 1; have q8_ := s1.2.1.cell 2; have q9_ := s1.2.1.cell 3; have q10_ := s1.2.1.cell 4; have q11_ := s1.2.1.cell 5; with_reducible exact ⟨q0_, q1_, q2_, q3_, q4_, q5_, q6_, q7_, q8_, q9_, q10_, q11_, s1⟩))
    (first
      | (go_at_call_of 28 (Value.agg #[.bool s1, .slice A1 a1.length c1, .slice D1 b1.length d1, .bool s2, .slice A2 a2.length c2, .slice D2 b2.length d2]); have hh := (by with_reducible assumption : _ ∧ _ ∧ _ ∧ _ ∧ _ ∧ _ ∧ _ ∧ _ ∧ _ ∧ _ ∧ _ ∧ _ ∧ S3 w w.heap.size [.bool s1, .slice A1 a1.length c1, .slice D1 b1.length d1, .bool s2, .slice A2 a2.length c2, .slice D2 b2.length d2] [.bool t1, .slice E1 e1.length j1, .slice F1 f1.length k1, .bool t2, .slice E2 e2.length j2, .slice F2 f2.length k2] 6 _).2.2.2.2.2.2.2.2.2.2.2.2; refine (hRX _ _ (vns p1 p2 p3 p4 hh.2.2.2)).mono ?_; rintro e w21 ⟨g1, rfl, O1, BX⟩; have B21 := BX; have sz21 := hh.2.2.1.2)
      | (go_at_call_of 28 (Value.agg #[.bool t1, .slice E1 e1.length j1, .slice F1 f1.length k1, .bool t2, .slice E2 e2.length j2, .slice F2 f2.length k2]); have hh := (by with_reducible assumption : _ ∧ _ ∧ _ ∧ _ ∧ _ ∧ _ ∧ _ ∧ _ ∧ _ ∧ _ ∧ _ ∧ _ ∧ S3 w w.heap.size [.bool s1, .slice A1 a1.length c1, .slice D1 b1.length d1, .bool s2, .slice A2 a2.length c2, .slice D2 b2.length d2] [.bool t1, .slice E1 e1.length j1, .slice F1 f1.length k1, .bool t2, .slice E2 e2.length j2, .slice F2 f2.length k2] 6 _).2.2.2.2.2.2.2.2.2.2.2.2; refine (hRY _ _ (vns q1 q2 q3 q4 hh.2.2.2)).mono ?_; rintro e w22 ⟨g2, rfl, O2, BX⟩; have B22 := BX; have kk := hh.nx BX))
  have hz22 := B21.size
  have P1 := (O1.below B22 (Nat.le_refl _)).base_le (B := w.heap.size + 3) (by omega)
  have P2 := O2.base_le (B := w.heap.size + 3) (by omega)
  have hne : g1 ≠ g2 := by have := O1.lt.2; have := O2.lt.1; omega
  have RR := kk.2.2.1
  have BB := kk.2.2.2
  clear O1 O2 B21 B22 kk hRX hRY p1 p2 p3 p4 q1 q2 q3 q4 kk1 kk5 B5 BW z3 kk5d kk5s
  obtain ⟨rx, hrx⟩ : ∃ rx, Hid (rowI (M + 1) X = rx) := ⟨_, rfl⟩
  obtain ⟨ry, hry⟩ : ∃ ry, Hid (rowI (M + 1) Y = ry) := ⟨_, rfl⟩
  rw [hrx.out] at P1
  rw [hry.out] at P2
  have hlx : rx.length = M + 1 := by rw [← hrx.out]; exact rowI_len _ _
  have hly : ry.length = M + 1 := by rw [← hry.out]; exact rowI_len _ _
  have HLX := Lib.hid hlx
  have HLY := Lib.hid hly
  have bx := P1.b32
  have by_ := P2.b32
  clear hlx hly
  go_wp2_with fail
  go_loopg [39] (M + 1) (fun gg iv wr => ∃ (k : Nat) (o : List Nat), k ≤ M + 1 ∧ M + 1 - k = gg ∧ iv = .int .i64 (k : Int) ∧ OW wr (w.heap.size + 3) (some ⟨g1, 0, none⟩) (M + 1) o ∧ OW wr (w.heap.size + 3) (some ⟨g2, 0, none⟩) (M + 1) ry ∧
    Hid (o.length = M + 1 ∧ (∀ j, k ≤ j → wd o j = wd rx j) ∧ (∀ j, j < k → wd o j = 4294967295 - wd rx j)) ∧ RC wr (w.heap.size + 2) 6 ∧ Below w.heap.size w wr)
  case atStart => exact ⟨0, rx, Nat.zero_le _, rfl, rfl, P1, P2, Lib.hid ⟨HLX.out, fun _ _ => rfl, fun j hj => by omega⟩, RR, BB⟩
  case round =>
    obtain ⟨k, o, hk, rfl, rfl, Q1, Q2, hI, RR2, BB2⟩ := hrel
    by_cases hk0 : k < M + 1
    · obtain ⟨hol, hrest, hdone⟩ := hI.out
      have cx := Q1.cell (k := k) (by omega)
      rw [hrest k (Nat.le_refl _)] at cx
      have cy := Q2.cell (k := k) (by have := HLY.out; omega)
      have fx := Q1.frozen k
      have hxl := wd_lt bx k
      have hyl := wd_lt by_ k
      have hgl := (bitOp_not (wd rx k) (wd ry k) hxl hyl).1
      have hset := Q1.set k hgl
      have hl1 := Q1.lt.1
      have Q2' := Q2.far (p := ⟨g1, k, none⟩) (fun g' hA => by cases hA; show g2 ≠ g1; omega) (.int .u32 ((4294967295 - wd rx k : Nat) : Int))
      have RR2' := (RR2.sb.far (p := ⟨g1, k, none⟩) (by show w.heap.size + 2 ≠ g1; omega) (.int .u32 ((4294967295 - wd rx k : Nat) : Int))).rc (n := 6)
      have BB2' := BB2.setCell (p := ⟨g1, k, none⟩) (by show w.heap.size ≤ g1; omega) (.int .u32 ((4294967295 - wd rx k : Nat) : Int))
      have HI : Hid ((o.set k (4294967295 - wd rx k)).length = M + 1 ∧ (∀ j, k + 1 ≤ j → wd (o.set k (4294967295 - wd rx k)) j = wd rx j) ∧ (∀ j, j < k + 1 → wd (o.set k (4294967295 - wd rx k)) j = 4294967295 - wd rx j)) := by
        refine ⟨by rw [List.length_set]; exact hol, fun j hj => by rw [wd_set_ne (by omega)]; exact hrest j (by omega), fun j hj => ?_⟩
        by_cases e : j = k
        · subst e; exact wd_set_eq (by omega)
        · rw [wd_set_ne (by omega)]; exact hdone j (by omega)
      have hcl := fun (v : World) => (not1_any (wd rx k) (wd ry k) v hxl).mono (fun e (w' : World) (h : e = _ ∧ v = w') => (⟨h.1, h.2.symm⟩ : e = _ ∧ w' = v))
      clear hol hrest hdone hI bx by_
      go_wp2_with fail
      refine wp_region_still_tail 13 (by kernel_rfl) (by kernel_rfl) ?_
      simp only [List.take_succ_cons, List.take_zero, List.drop_succ_cons, List.drop_zero]
      repeat still_step
      still_call (hcl _)
      repeat still_step
      try refine wpStill_nil ?_
      go_wp2_with fail
      go_roundg (M + 1 - (k + 1))
      case measure => omega
      case rel => exact ⟨k + 1, _, by omega, rfl, by go_num, hset, Q2', HI, RR2', bdN BB2' 1⟩
    · obtain rfl : k = M + 1 := by omega
      have ho : o = List.zipWith (fun x _ => 4294967295 - x) rx ry := by
        obtain ⟨hol, hrest, hdone⟩ := hI.out
        have hzl : (List.zipWith (fun x _ => 4294967295 - x) rx ry).length = M + 1 := by rw [zip_len (by rw [HLX.out, HLY.out])]; exact HLX.out
        refine List.ext_getElem (by omega) (fun j h1 h2 => ?_)
        have e1 := hdone j (by omega)
        have e2 := zip_wd (g := (fun x _ => 4294967295 - x)) (a := rx) (b := ry) (by rw [HLX.out, HLY.out]) (k := j) (by rw [HLX.out]; omega)
        have e3 := e1.trans e2.symm
        unfold wd at e3
        rwa [List.getD_eq_getElem?_getD, List.getD_eq_getElem?_getD, List.getElem?_eq_getElem h1, List.getElem?_eq_getElem h2] at e3
      have hol := hI.out.1
      have hN := bnum_any g1 (M + 1) o wr (w.heap.size + 3) Q1 (by omega) (by omega) (by have := RR2.2; omega)
      have hval : Hid (tcI (32 * o.length) (val o) = rowOp (fun x _ => 4294967295 - x) (M + 1) X Y) := by
        show _ = _
        rw [hol, ho, ← hrx.out, ← hry.out]; rfl
      rw [hval.out, hol] at hN
      clear hol ho hI hval hk0
      obtain ⟨R, hR⟩ : ∃ R, Hid (fitQ ((rowOp (fun x _ => 4294967295 - x) (M + 1) X Y : Int) : Rat) 0 = R) := ⟨_, rfl⟩
      rw [hR.out] at hN
      obtain ⟨fr, fi, fk⟩ := R
      go_wp2_with fail
      refine hN.mono ?_; rintro e w5 ⟨H1, h1, I1, i1, H2, h2, I2, i2, rfl, O1, O2, O3, O4, B5⟩
      dsimp only at O1 O2 O3 O4
      have hRC := (RR2.sb.below B5 (by omega)).rc (n := 6)
      have BB5 := BB2.trans (B5.mono (by omega))
      go_wp2_with (refine wp_st6 rfl (.tmp 6) (.tmp 58) rfl _ rfl _ _ _ _ _ _ rfl hRC rfl rfl rfl rfl rfl rfl ?_)
      have s6 := hRC.put6 (.bool fr.s) (.slice H1 fr.a.length h1) (.slice I1 fr.b.length i1) (.bool fi.s) (.slice H2 fi.a.length h2) (.slice I2 fi.b.length i2)
      have B6 := wr6_below (b := w.heap.size + 2) BB5 (by omega) (.bool fr.s) (.slice H1 fr.a.length h1) (.slice I1 fr.b.length i1) (.bool fi.s) (.slice H2 fi.a.length h2) (.slice I2 fi.b.length i2)
      have Oa := O1.put6 (b := w.heap.size + 2) (by omega) (.bool fr.s) (.slice H1 fr.a.length h1) (.slice I1 fr.b.length i1) (.bool fi.s) (.slice H2 fi.a.length h2) (.slice I2 fi.b.length i2)
      have Ob := O2.put6 (b := w.heap.size + 2) (by omega) (.bool fr.s) (.slice H1 fr.a.length h1) (.slice I1 fr.b.length i1) (.bool fi.s) (.slice H2 fi.a.length h2) (.slice I2 fi.b.length i2)
      have Oc := O3.put6 (b := w.heap.size + 2) (by omega) (.bool fr.s) (.slice H1 fr.a.length h1) (.slice I1 fr.b.length i1) (.bool fi.s) (.slice H2 fi.a.length h2) (.slice I2 fi.b.length i2)
      have Od := O4.put6 (b := w.heap.size + 2) (by omega) (.bool fr.s) (.slice H1 fr.a.length h1) (.slice I1 fr.b.length i1) (.bool fi.s) (.slice H2 fi.a.length h2) (.slice I2 fi.b.length i2)
      have r0' := s6.cell 0
      have r1' := s6.cell 1
      have r2' := s6.cell 2
      have r3' := s6.cell 3
      have r4' := s6.cell 4
      have r5' := s6.cell 5
      refine bodyPost_ret (v := .tuple #[.agg #[.bool fr.s, .slice H1 fr.a.length h1, .slice I1 fr.b.length i1, .bool fi.s, .slice H2 fi.a.length h2, .slice I2 fi.b.length i2], .int .i64 fk]) (by simp [results, r0', r1', r2', r3', r4', r5', go_sem]) rfl ?_
      rw [hR.out]
      exact ⟨H1, h1, I1, i1, H2, h2, I2, i2, rfl, Oa.base_le (by omega), Ob.base_le (by omega), Oc.base_le (by omega), Od.base_le (by omega), B6⟩

end Go.Proofs.YtbgggepdlkbpoaaGreatDoor
namespace Go.Proofs.YtbgggepdlkbpoaaGreatDoor
open Go.RowKit

/-- a whole number's value -/
def iv (r : Rw) : Int := sgn r.s (val r.a)
theorem wB_rw {r i : Rw} (h : wB r i = true) : r = rwq ((iv r : Int) : Rat) ∧ i = rwq 0 ∧ r.a.length ≤ 512 := by
  obtain ⟨h1, h2, h3, h4, h5⟩ := wB_int h
  refine ⟨?_, by rw [h3, rwq_z'], h5⟩
  unfold iv
  rw [rwq_int _ _ h4, ← h1, ← h2]
theorem bchk2_zero {r i r2 i2 : Rw} (h : bchkN2 r i r2 i2 = 0) : wB r i = true ∧ wB r2 i2 = true := by
  unfold bchkN2 at h
  split at h
  · split at h
    · assumption
    · cases h
  · cases h
theorem bchk1_zero {r i : Rw} (h : bchkN1 r i = 0) : wB r i = true := by
  unfold bchkN1 at h
  split at h
  · split at h
    · assumption
    · cases h
  · cases h
/-- an operation's answer -/
def qbothA (g : Nat → Nat → Nat) (r i r2 i2 : Rw) : Rw × Rw × Int :=
  if bchkN2 r i r2 i2 = 0 then fitQ ((rowOp g (max r.a.length r2.a.length + 1) (iv r) (iv r2) : Int) : Rat) 0 else (rw0, rw0, bchkN2 r i r2 i2)

theorem each_Or (V U : Value) (r i r2 i2 : Rw) (w : World) (hV : VN w w.heap.size V r i) (hU : VN w w.heap.size U r2 i2) :
    Calls Tryz.prog 30 #[V, U, .func (.func 31) #[] #[]] w (RetNE w (qbothA (· ||| ·) r i r2 i2)) := by
  obtain ⟨A1, c1, D1, d1, A2, c2, D2, d2, rfl, p1, p2, p3, p4⟩ := hV
  obtain ⟨E1, j1, F1, k1, E2, j2, F2, k2, rfl, q1, q2, q3, q4⟩ := hU
  unfold qbothA
  by_cases hk : bchkN2 r i r2 i2 = 0
  · rw [if_pos hk]
    obtain ⟨y1, y2⟩ := bchk2_zero hk
    obtain ⟨x1, x2, x3⟩ := wB_rw y1
    obtain ⟨z1, z2, z3⟩ := wB_rw y2
    exact each_ok_Or r.s i.s r2.s i2.s r.a r.b i.a i.b r2.a r2.b i2.a i2.b A1 D1 A2 D2 E1 F1 E2 F2 c1 d1 c2 d2 j1 k1 j2 k2 w p1 p2 p3 p4 q1 q2 q3 q4 (iv r) (iv r2) (Lib.hid ⟨x1, x2⟩) (Lib.hid ⟨z1, z2⟩) x3 z3 hk
  · rw [if_neg hk]
    exact each_bad_Or r.s i.s r2.s i2.s r.a r.b i.a i.b r2.a r2.b i2.a i2.b A1 D1 A2 D2 E1 F1 E2 F2 c1 d1 c2 d2 j1 k1 j2 k2 w p1 p2 p3 p4 q1 q2 q3 q4 _ rfl (beq_eq_false_iff_ne.2 hk)

set_option maxRecDepth 100000 in
set_option maxHeartbeats 8000000 in
theorem bor_any (V U : Value) (r i r2 i2 : Rw) (w : World) (hV : VN w w.heap.size V r i) (hU : VN w w.heap.size U r2 i2) :
    Calls Tryz.prog 10 #[V, U] w (RetNE w (qbothA (· ||| ·) r i r2 i2)) := by
  obtain ⟨A1, c1, D1, d1, A2, c2, D2, d2, rfl, p1, p2, p3, p4⟩ := hV
  obtain ⟨E1, j1, F1, k1, E2, j2, F2, k2, rfl, q1, q2, q3, q4⟩ := hU
  have kk := S3.new w [.bool r.s, .slice A1 r.a.length c1, .slice D1 r.b.length d1, .bool i.s, .slice A2 i.a.length c2, .slice D2 i.b.length d2] [.bool r2.s, .slice E1 r2.a.length j1, .slice F1 r2.b.length k1, .bool i2.s, .slice E2 i2.a.length j2, .slice F2 i2.b.length k2] [.bool false, .slice none 0 0, .slice none 0 0, .bool false, .slice none 0 0, .slice none 0 0] 26 26 26 6
  have BW := kk.2.2.2
  have RR := kk.2.2.1
  have m0 := kk.1.cell 0
  have m1 := kk.1.cell 1
  have m2 := kk.1.cell 2
  have m3 := kk.1.cell 3
  have m4 := kk.1.cell 4
  have m5 := kk.1.cell 5
  have n0 := kk.2.1.cell 0
  have n1 := kk.2.1.cell 1
  have n2 := kk.2.1.cell 2
  have n3 := kk.2.1.cell 3
  have n4 := kk.2.1.cell 4
  have n5 := kk.2.1.cell 5
  have hE := each_Or _ _ r i r2 i2 _ (vns p1 p2 p3 p4 BW) (vns q1 q2 q3 q4 BW)
  obtain ⟨R, hR⟩ : ∃ R, Hid (qbothA (· ||| ·) r i r2 i2 = R) := ⟨_, rfl⟩
  rw [hR.out] at hE ⊢
  obtain ⟨fr, fi, fk⟩ := R
  go_enter Tryz.func10, Tryz.ntmps10
  go_wp2_with fail
  refine hE.mono ?_; rintro e w5 ⟨H1, h1, I1, i1, H2, h2, I2, i2_, rfl, O1, O2, O3, O4, B5⟩
  clear m0 m1 m2 m3 m4 m5 n0 n1 n2 n3 n4 n5
  dsimp only at O1 O2 O3 O4
  have hRC := RR.nx B5
  have BB5 := bt BW B5
  have hz := RR.2
  go_wp2_with (refine wp_st6 rfl (.tmp 4) (.tmp 9) rfl _ rfl _ _ _ _ _ _ rfl hRC rfl rfl rfl rfl rfl rfl ?_)
  have s6 := hRC.put6 (.bool fr.s) (.slice H1 fr.a.length h1) (.slice I1 fr.b.length i1) (.bool fi.s) (.slice H2 fi.a.length h2) (.slice I2 fi.b.length i2_)
  have B6 := wr6_below (b := w.heap.size + 2) BB5 (by omega) (.bool fr.s) (.slice H1 fr.a.length h1) (.slice I1 fr.b.length i1) (.bool fi.s) (.slice H2 fi.a.length h2) (.slice I2 fi.b.length i2_)
  have Oa := O1.put6 (b := w.heap.size + 2) hz (.bool fr.s) (.slice H1 fr.a.length h1) (.slice I1 fr.b.length i1) (.bool fi.s) (.slice H2 fi.a.length h2) (.slice I2 fi.b.length i2_)
  have Ob := O2.put6 (b := w.heap.size + 2) hz (.bool fr.s) (.slice H1 fr.a.length h1) (.slice I1 fr.b.length i1) (.bool fi.s) (.slice H2 fi.a.length h2) (.slice I2 fi.b.length i2_)
  have Oc := O3.put6 (b := w.heap.size + 2) hz (.bool fr.s) (.slice H1 fr.a.length h1) (.slice I1 fr.b.length i1) (.bool fi.s) (.slice H2 fi.a.length h2) (.slice I2 fi.b.length i2_)
  have Od := O4.put6 (b := w.heap.size + 2) hz (.bool fr.s) (.slice H1 fr.a.length h1) (.slice I1 fr.b.length i1) (.bool fi.s) (.slice H2 fi.a.length h2) (.slice I2 fi.b.length i2_)
  have r0' := s6.cell 0
  have r1' := s6.cell 1
  have r2' := s6.cell 2
  have r3' := s6.cell 3
  have r4' := s6.cell 4
  have r5' := s6.cell 5
  refine bodyPost_ret (v := .tuple #[.agg #[.bool fr.s, .slice H1 fr.a.length h1, .slice I1 fr.b.length i1, .bool fi.s, .slice H2 fi.a.length h2, .slice I2 fi.b.length i2_], .int .i64 fk]) (by simp [results, r0', r1', r2', r3', r4', r5', go_sem]) rfl ?_
  have hle := BW.size
  exact ⟨H1, h1, I1, i1, H2, h2, I2, i2_, rfl, Oa.base_le hle, Ob.base_le hle, Oc.base_le hle, Od.base_le hle, B6⟩

theorem each_Not (V U : Value) (r i r2 i2 : Rw) (w : World) (hV : VN w w.heap.size V r i) (hU : VN w w.heap.size U r2 i2) :
    Calls Tryz.prog 30 #[V, U, .func (.func 42) #[] #[]] w (RetNE w (qbothA (fun x _ => 4294967295 - x) r i r2 i2)) := by
  obtain ⟨A1, c1, D1, d1, A2, c2, D2, d2, rfl, p1, p2, p3, p4⟩ := hV
  obtain ⟨E1, j1, F1, k1, E2, j2, F2, k2, rfl, q1, q2, q3, q4⟩ := hU
  unfold qbothA
  by_cases hk : bchkN2 r i r2 i2 = 0
  · rw [if_pos hk]
    obtain ⟨y1, y2⟩ := bchk2_zero hk
    obtain ⟨x1, x2, x3⟩ := wB_rw y1
    obtain ⟨z1, z2, z3⟩ := wB_rw y2
    exact each_ok_Not r.s i.s r2.s i2.s r.a r.b i.a i.b r2.a r2.b i2.a i2.b A1 D1 A2 D2 E1 F1 E2 F2 c1 d1 c2 d2 j1 k1 j2 k2 w p1 p2 p3 p4 q1 q2 q3 q4 (iv r) (iv r2) (Lib.hid ⟨x1, x2⟩) (Lib.hid ⟨z1, z2⟩) x3 z3 hk
  · rw [if_neg hk]
    exact each_bad_Not r.s i.s r2.s i2.s r.a r.b i.a i.b r2.a r2.b i2.a i2.b A1 D1 A2 D2 E1 F1 E2 F2 c1 d1 c2 d2 j1 k1 j2 k2 w p1 p2 p3 p4 q1 q2 q3 q4 _ rfl (beq_eq_false_iff_ne.2 hk)

set_option maxRecDepth 100000 in
set_option maxHeartbeats 8000000 in
theorem bnot_any (V : Value) (r i : Rw) (w : World) (hV : VN w w.heap.size V r i) :
    Calls Tryz.prog 16 #[V] w (RetNE w (qbothA (fun x _ => 4294967295 - x) r i r i)) := by
  obtain ⟨A1, c1, D1, d1, A2, c2, D2, d2, rfl, p1, p2, p3, p4⟩ := hV
  have kk := S2.new w [.bool r.s, .slice A1 r.a.length c1, .slice D1 r.b.length d1, .bool i.s, .slice A2 i.a.length c2, .slice D2 i.b.length d2] [.bool false, .slice none 0 0, .slice none 0 0, .bool false, .slice none 0 0, .slice none 0 0] 26 26 6
  have BW := kk.2.2
  have RR := kk.2.1
  have m0 := kk.1.cell 0
  have m1 := kk.1.cell 1
  have m2 := kk.1.cell 2
  have m3 := kk.1.cell 3
  have m4 := kk.1.cell 4
  have m5 := kk.1.cell 5
  have hE := each_Not _ _ r i r i _ (vns p1 p2 p3 p4 BW) (vns p1 p2 p3 p4 BW)
  obtain ⟨R, hR⟩ : ∃ R, Hid (qbothA (fun x _ => 4294967295 - x) r i r i = R) := ⟨_, rfl⟩
  rw [hR.out] at hE ⊢
  obtain ⟨fr, fi, fk⟩ := R
  go_enter Tryz.func16, Tryz.ntmps16
  go_wp2_with fail
  refine hE.mono ?_; rintro e w5 ⟨H1, h1, I1, i1, H2, h2, I2, i2_, rfl, O1, O2, O3, O4, B5⟩
  clear m0 m1 m2 m3 m4 m5
  dsimp only at O1 O2 O3 O4
  have hRC := RR.nx B5
  have BB5 := bt BW B5
  have hz := RR.2
  go_wp2_with (refine wp_st6 rfl (.tmp 2) (.tmp 7) rfl _ rfl _ _ _ _ _ _ rfl hRC rfl rfl rfl rfl rfl rfl ?_)
  have s6 := hRC.put6 (.bool fr.s) (.slice H1 fr.a.length h1) (.slice I1 fr.b.length i1) (.bool fi.s) (.slice H2 fi.a.length h2) (.slice I2 fi.b.length i2_)
  have B6 := wr6_below (b := w.heap.size + 1) BB5 (by omega) (.bool fr.s) (.slice H1 fr.a.length h1) (.slice I1 fr.b.length i1) (.bool fi.s) (.slice H2 fi.a.length h2) (.slice I2 fi.b.length i2_)
  have Oa := O1.put6 (b := w.heap.size + 1) hz (.bool fr.s) (.slice H1 fr.a.length h1) (.slice I1 fr.b.length i1) (.bool fi.s) (.slice H2 fi.a.length h2) (.slice I2 fi.b.length i2_)
  have Ob := O2.put6 (b := w.heap.size + 1) hz (.bool fr.s) (.slice H1 fr.a.length h1) (.slice I1 fr.b.length i1) (.bool fi.s) (.slice H2 fi.a.length h2) (.slice I2 fi.b.length i2_)
  have Oc := O3.put6 (b := w.heap.size + 1) hz (.bool fr.s) (.slice H1 fr.a.length h1) (.slice I1 fr.b.length i1) (.bool fi.s) (.slice H2 fi.a.length h2) (.slice I2 fi.b.length i2_)
  have Od := O4.put6 (b := w.heap.size + 1) hz (.bool fr.s) (.slice H1 fr.a.length h1) (.slice I1 fr.b.length i1) (.bool fi.s) (.slice H2 fi.a.length h2) (.slice I2 fi.b.length i2_)
  have r0' := s6.cell 0
  have r1' := s6.cell 1
  have r2' := s6.cell 2
  have r3' := s6.cell 3
  have r4' := s6.cell 4
  have r5' := s6.cell 5
  refine bodyPost_ret (v := .tuple #[.agg #[.bool fr.s, .slice H1 fr.a.length h1, .slice I1 fr.b.length i1, .bool fi.s, .slice H2 fi.a.length h2, .slice I2 fi.b.length i2_], .int .i64 fk]) (by simp [results, r0', r1', r2', r3', r4', r5', go_sem]) rfl ?_
  have hle := BW.size
  exact ⟨H1, h1, I1, i1, H2, h2, I2, i2_, rfl, Oa.base_le hle, Ob.base_le hle, Oc.base_le hle, Od.base_le hle, B6⟩

end Go.Proofs.YtbgggepdlkbpoaaGreatDoor
namespace Go.Proofs.YtbgggepdlkbpoaaGreatDoor
open Go.RowKit

/-- structs in their blocks, a result's n cells in block r, and nothing changed below w -/
def SL (w : World) (r n : Nat) (L : List (Nat × List Value)) (w' : World) : Prop := (∀ p ∈ L, SB w' p.1 p.2 ∧ p.1 ≠ r) ∧ (RC w' r n ∧ w.heap.size ≤ r) ∧ Below w.heap.size w w'
section
variable {w w1 w2 : World} {r n : Nat} {L : List (Nat × List Value)} {p0 p1 p2 p3 p4 p5 : Nat × List Value}
theorem SL.nx (h : SL w r n L w1) (hb : Below w1.heap.size w1 w2) : SL w r n L w2 := ⟨fun p hp => ⟨(h.1 p hp).1.nx hb, (h.1 p hp).2⟩, ⟨h.2.1.1.nx hb, h.2.1.2⟩, bt h.2.2 hb⟩
theorem SL.dr (h : SL w r n L w1) : SL w r n L w1.drew := ⟨h.1, h.2.1, bdN h.2.2 1⟩
theorem SL.drN (h : SL w r n L w1) (k : Nat) : SL w r n L (w1.drewN k) := ⟨h.1, h.2.1, bdN h.2.2 k⟩
theorem SL.rc (h : SL w r n L w1) : RC w1 r n := h.2.1.1
theorem SL.bl (h : SL w r n L w1) : Below w.heap.size w w1 := h.2.2
theorem SL.hr (h : SL w r n L w1) : w.heap.size ≤ r := h.2.1.2
theorem SL.put6 (h : SL w r 6 L w1) (x y z x' y' z' : Value) : SL w r 6 L (Go.Proofs.YtbgggepdlkbpoaaGreatDoor.wr6 w1 r x y z x' y' z') :=
  ⟨fun p hp => ⟨(h.1 p hp).1.wr6 (h.1 p hp).2 x y z x' y' z', (h.1 p hp).2⟩, ⟨(h.rc.put6 x y z x' y' z').rc, h.hr⟩, wr6_below h.bl h.hr x y z x' y' z'⟩
theorem SL.put3 (h : SL w r 3 L w1) (x y z : Value) : SL w r 3 L (Go.Proofs.YtbgggepdlkbpoaaGreatDoor.wr3 w1 r x y z) :=
  ⟨fun p hp => ⟨(h.1 p hp).1.wr3 (h.1 p hp).2 x y z, (h.1 p hp).2⟩, ⟨(h.rc.put3 x y z).rc, h.hr⟩, wr3_below h.bl h.hr x y z⟩
theorem SL.cons (h : SL w r n L w1) {b : Nat} {l : List Value} (hb : SB w1 b l) (hne : b ≠ r) : SL w r n ((b, l) :: L) w1 :=
  ⟨fun p hp => (List.mem_cons.1 hp).elim (fun e => by rw [e]; exact ⟨hb, hne⟩) (fun hp => h.1 p hp), h.2.1, h.2.2⟩
theorem SL.start (hr : RC w1 r n) (hw : w.heap.size ≤ r) (hb : Below w.heap.size w w1) : SL w r n [] w1 := ⟨fun p hp => by simp at hp, ⟨hr, hw⟩, hb⟩
theorem SL.tl (h : SL w r n (p0 :: L) w1) : SL w r n L w1 := ⟨fun p hp => h.1 p (List.mem_cons_of_mem _ hp), h.2.1, h.2.2⟩
theorem SL.a0 (h : SL w r n (p0 :: L) w1) : SB w1 p0.1 p0.2 := (h.1 p0 (by simp)).1
theorem SL.a1 (h : SL w r n (p0 :: p1 :: L) w1) : SB w1 p1.1 p1.2 := h.tl.a0
theorem SL.a2 (h : SL w r n (p0 :: p1 :: p2 :: L) w1) : SB w1 p2.1 p2.2 := h.tl.a1
theorem SL.a3 (h : SL w r n (p0 :: p1 :: p2 :: p3 :: L) w1) : SB w1 p3.1 p3.2 := h.tl.a2
theorem SL.a4 (h : SL w r n (p0 :: p1 :: p2 :: p3 :: p4 :: L) w1) : SB w1 p4.1 p4.2 := h.tl.a3
theorem SL.a5 (h : SL w r n (p0 :: p1 :: p2 :: p3 :: p4 :: p5 :: L) w1) : SB w1 p5.1 p5.2 := h.tl.a4
end
/-- one word in a block, read as a list -/
theorem SB.one {w : World} {b : Nat} {x : Nat} (h : SB w b [.int .u32 (x : Int)]) (hx : x < 4294967296) : RW w w.heap.size (some ⟨b, 0, none⟩) 1 [x] := by
  refine ⟨⟨by simp, by simp, fun _ => ⟨b, 0, rfl, h.2, fun k y hk => ?_⟩⟩, fun y hy => by simp at hy; omega⟩
  match k, hk with
  | 0, hk => simp at hk; subst hk; exact h.cell 0
/-- a number that may be read, of whatever blocks -/
def RetVN (w : World) (r i : Rw) (e : Ending) (w' : World) : Prop := ∃ A1 c1 D1 d1 A2 c2 D2 d2, e = .returned (.agg #[.bool r.s, .slice A1 r.a.length c1, .slice D1 r.b.length d1, .bool i.s, .slice A2 i.a.length c2, .slice D2 i.b.length d2]) ∧
  RW w' w'.heap.size A1 c1 r.a ∧ RW w' w'.heap.size D1 d1 r.b ∧ RW w' w'.heap.size A2 c2 i.a ∧ RW w' w'.heap.size D2 d2 i.b ∧ Below w.heap.size w w'
/-- a number that may be read, and an error's number -/
def RetVNE (w : World) (x : Rw × Rw × Int) (e : Ending) (w' : World) : Prop := ∃ A1 c1 D1 d1 A2 c2 D2 d2, e = .returned (.tuple #[.agg #[.bool x.1.s, .slice A1 x.1.a.length c1, .slice D1 x.1.b.length d1, .bool x.2.1.s, .slice A2 x.2.1.a.length c2, .slice D2 x.2.1.b.length d2], .int .i64 x.2.2]) ∧
  RW w' w'.heap.size A1 c1 x.1.a ∧ RW w' w'.heap.size D1 d1 x.1.b ∧ RW w' w'.heap.size A2 c2 x.2.1.a ∧ RW w' w'.heap.size D2 d2 x.2.1.b ∧ Below w.heap.size w w'
theorem RetN.v {w w' : World} {r i : Rw} {e : Ending} (h : RetN w r i e w') : RetVN w r i e w' := by
  obtain ⟨A1, c1, D1, d1, A2, c2, D2, d2, he, o1, o2, o3, o4, B⟩ := h
  exact ⟨A1, c1, D1, d1, A2, c2, D2, d2, he, o1.rw, o2.rw, o3.rw, o4.rw, B⟩
theorem RetNE.v {w w' : World} {x : Rw × Rw × Int} {e : Ending} (h : RetNE w x e w') : RetVNE w x e w' := by
  obtain ⟨A1, c1, D1, d1, A2, c2, D2, d2, he, o1, o2, o3, o4, B⟩ := h
  exact ⟨A1, c1, D1, d1, A2, c2, D2, d2, he, o1.rw, o2.rw, o3.rw, o4.rw, B⟩
theorem retVNE_nil {w w' : World} (k : Int) (hb : Below w.heap.size w w') : RetVNE w (rw0, rw0, k) (.returned (.tuple #[.agg #[.bool false, .slice none 0 0, .slice none 0 0, .bool false, .slice none 0 0, .slice none 0 0], .int .i64 k])) w' := (retNE_nil k hb).v
end Go.Proofs.YtbgggepdlkbpoaaGreatDoor
namespace Go.Proofs.YtbgggepdlkbpoaaGreatDoor
open Go.RowKit

theorem qn_one : qn 1 = false := by unfold qn; exact decide_eq_false (by decide)
theorem qt_one : qt 1 = 1 := rfl
theorem qd_one : qd 1 = 1 := rfl
theorem qw_one : qw 1 = 1 := by unfold qw; rw [qt_one, qd_one, digs_one1]; rfl


theorem rqm {w : World} {A D : Option Addr} {c d : Nat} {q : Rat} (h1 : RW w w.heap.size A c (digs (qt q))) (h2 : RW w w.heap.size D d (digs (qd q))) : RQ w w.heap.size (.agg #[.bool (qn (-q)), .slice A (digs (qt (-q))).length c, .slice D (digs (qd (-q))).length d]) (-q) :=
  ⟨A, c, D, d, rfl, by rw [q_neg_t]; exact h1, by rw [q_neg_d]; exact h2⟩
end Go.Proofs.YtbgggepdlkbpoaaGreatDoor
namespace Go.Proofs.YtbgggepdlkbpoaaGreatDoor
open Go.RowKit

theorem neg_one_int (X : Int) : -((X : Int) : Rat) + -1 = (((-X - 1 : Int)) : Rat) := by
  rw [Int.sub_eq_add_neg, Rat.intCast_add, Rat.intCast_neg, Rat.intCast_neg]; rfl
theorem rowI_of {n : Nat} {o : List Nat} {v : Nat} (ho : o.length = n) (h : (digs v).length ≤ n) (hw : ∀ j, j < n → wd o j = wd (digs v) j) : o = rowI n (v : Int) := by
  rw [← row_pos h]
  have hl : (digs v ++ List.replicate (n - (digs v).length) 0).length = n := by simp; omega
  refine List.ext_getElem (by omega) (fun j h1 h2 => ?_)
  have e := hw j (by omega)
  unfold wd at e
  rw [List.getD_eq_getElem?_getD, List.getD_eq_getElem?_getD, List.getElem?_eq_getElem h1] at e
  by_cases hj : j < (digs v).length
  · rw [List.getElem_append_left hj]
    rwa [List.getElem?_eq_getElem hj] at e
  · rw [List.getElem_append_right (by omega), List.getElem_replicate]
    rwa [List.getElem?_eq_none (by omega)] at e
theorem rowI_ofn {n : Nat} {o : List Nat} {v : Nat} (ho : o.length = n) (h : (digs v).length ≤ n) (hw : ∀ j, j < n → wd o j = 4294967295 - wd (digs v) j) : o = rowI n (-(v : Int) - 1) := by
  rw [rowI_not]
  have hl : (rowI n (v : Int)).length = n := rowI_len _ _
  have e0 : rowI n (v : Int) = o.map (fun x => 4294967295 - x) := by
    symm
    refine rowI_of (by simpa using ho) h (fun j hj => ?_)
    have e := hw j hj
    have hb := wd_lt (B32_digs v) j
    unfold wd at e hb ⊢
    rw [List.getD_eq_getElem?_getD] at e ⊢
    rw [List.getElem?_map]
    rw [List.getElem?_eq_getElem (by omega)] at e ⊢
    simp only [Option.getD_some, Option.map_some] at e ⊢
    rw [e]
    omega
  rw [e0, List.map_map]
  have hb : ∀ x ∈ o, 4294967295 - (4294967295 - x) = x := fun x hx => by
    obtain ⟨j, hj, rfl⟩ := List.getElem_of_mem hx
    have e := hw j (by omega)
    unfold wd at e
    rw [List.getD_eq_getElem?_getD, List.getElem?_eq_getElem hj] at e
    simp only [Option.getD_some] at e
    omega
  conv => lhs; rw [← List.map_id o]
  exact List.map_congr_left (fun x hx => (hb x hx).symm)


end Go.Proofs.YtbgggepdlkbpoaaGreatDoor
namespace Go.Proofs.YtbgggepdlkbpoaaGreatDoor
open Go.RowKit


theorem lit1 (w : World) : OW (w.alloc (.cells #[.int .u32 (1 : Nat)] 55)) w.heap.size (some ⟨w.heap.size, 0, none⟩) 1 [1] := OW.lit w [1] (by simp) (B32_cons (by omega) B32_nil)
/-- an answer in its own words -/
def RetI (w : World) (s : Bool) (k : Nat) (e : Ending) (w' : World) : Prop := ∃ A1 c1 D1 d1 A2 c2 D2 d2, e = .returned (.agg #[.bool s, .slice A1 (digs k).length c1, .slice D1 1 d1, .bool false, .slice A2 0 c2, .slice D2 1 d2]) ∧
  OW w' w.heap.size A1 c1 (digs k) ∧ OW w' w.heap.size D1 d1 [1] ∧ OW w' w.heap.size A2 c2 [] ∧ OW w' w.heap.size D2 d2 [1] ∧ Below w.heap.size w w'
end Go.Proofs.YtbgggepdlkbpoaaGreatDoor
namespace Go.Proofs.YtbgggepdlkbpoaaGreatDoor
open Go.RowKit

theorem OW.far6 {w : World} {base b c : Nat} {A : Option Addr} {l : List Nat} (h : OW w base A c l) (hb : ∀ g, A = some ⟨g, 0, none⟩ → g ≠ b) (x y z x' y' z' : Value) : OW (wr6 w b x y z x' y' z') base A c l := by
  have f : ∀ {w : World}, OW w base A c l → ∀ i v, OW (w.setCell ⟨b, i, none⟩ v) base A c l := fun O i v => O.far hb _
  exact f (f (f (f (f (f h 0 x) 1 y) 2 z) 3 x') 4 y') 5 z'
theorem OW.kb {w w' : World} {base B c : Nat} {A : Option Addr} {l : List Nat} (h : OW w base A c l) (hb : Below B w w') (hlt : ∀ g, A = some ⟨g, 0, none⟩ → g < B) : OW w' base A c l := ⟨OL.kept h.1 (fun g hg => hb.block g (hlt g hg)), h.2⟩


end Go.Proofs.YtbgggepdlkbpoaaGreatDoor
namespace Go.Proofs.YtbgggepdlkbpoaaGreatDoor
open Go.RowKit

/-- append(v, r...): behind a row of the call's own (nil too) -/
theorem step_app {P : Program} (w : World) {ops : Array Oper} {o : Oper} {a : Act} {K : Act → World → Prop} {Q : Exit → Act → World → Prop} {E : Prop}
    (T e : TypeId) {α : Type} (f : α → Value) (x0 : α) (by_ : Nat) (hu : P.underlying T = some (.slice e)) (hi : (P.info? e).map (fun i => (i.zero, i.size, i.bytes)) = some (some (f x0), 1, by_)) (h1 : ∀ x, (f x).cells = #[f x] ∧ (f x).oneCell' = true)
    (hg : o.guard = none) (s x : Operand) (hop : o.op = Op.call { callee := Callee.builtin Builtin.append, args := #[s, x], argTypes := #[T, T] })
    (base : Nat) (A : Option Addr) (c n : Nat) (l : List α) (hs : a.eval s = .slice A n c) (hn : n = l.length) (hown : OL e f w base A c l)
    (D : Option Addr) (d m : Nat) (r : List α) (hx : a.eval x = .slice D m d) (hm : m = r.length) (Br : Nat) (hr : RL f w Br D d r)
    (hlen : l.length + r.length ≤ 35184372088832) (hby : (l.length + r.length) * by_ ≤ 140737488355328) (hbase : base ≤ w.heap.size)
    (hK : ∀ A' c' w', OL e f w' base A' c' (l ++ r) → w.grownBy w' (Value.slice A n c).ownBlock → (∀ g, A' = some ⟨g, 0, none⟩ → g < w.heap.size → A = some ⟨g, 0, none⟩) →
      K (a.put o.dst (.slice A' (l ++ r).length c')) w') :
    if Region.wanted o (yielded ops a.tmps) = true then Oper.wp P o a w K Q else E := by
  obtain ⟨i, hi, h0, hi1, h2⟩ := info_parts hi
  subst hn hm
  have hw : Region.wanted o (yielded ops a.tmps) = true := by simp [Region.wanted, hg]
  rw [if_pos hw]
  have key : ∃ v' w', (Builtin.append_ #[T, T] o.type #[.slice A l.length c, .slice D r.length d]).run P w = .ok v' w' ∧ w'.ownsRow base e 1 v' (l.length + r.length) (l.map f ++ r.map f) ∧ w.grownBy w' (Value.slice A l.length c).ownBlock ∧ (v'.ownBlock = (Value.slice A l.length c).ownBlock ∨ v'.ownBlock = some w.heap.size) := by
    by_cases hr0 : r.length = 0
    · have hrn : r = [] := List.eq_nil_of_length_eq_zero hr0
      subst hrn
      exact ⟨_, w, run_append_nil' w hu hi hown.1 D d, by simpa using hown.1, World.grownBy.refl w _, .inl rfl⟩
    · obtain ⟨b, off, rfl, _, hc⟩ := hr.2.2 (by omega)
      obtain ⟨v', w', hrun, q1, q2, _, q4⟩ := run_append_own_at (P := P) w base T o.type e i (f x0) 1 by_ hu hi h0 hi1 h2 (by rw [(h1 x0).1]; rfl) (by omega) (.slice A l.length c) l.length (l.map f) hown.1 ⟨b, off, none⟩ r.length d (r.map f) (by simp)
        (by
          intro j u hj
          rw [List.getElem?_map] at hj
          obtain ⟨y, hy, rfl⟩ := Option.map_eq_some_iff.1 hj
          rw [Addr.add_lit]
          exact hc j y hy)
        (by
          intro u hu
          obtain ⟨y, _, rfl⟩ := List.mem_map.1 hu
          exact (h1 y).2)
        (by unfold maxLen; omega) hby hbase
      exact ⟨v', w', hrun, q1, q2, q4⟩
  obtain ⟨v', w', hrun, q1, q2, q4⟩ := key
  unfold Oper.wp execOp
  simp only [hop, resolve, invoke, builtin, Sem.run_bind, Sem.run_pure, Result.andThen_ok, List.map_toArray, List.map_cons, List.map_nil, hs, hx, hrun]
  have hlen2 : (l ++ r).length = l.length + r.length := List.length_append
  rcases q1.2 with ⟨rfl, hz⟩ | ⟨g, cap, cur, rfl, a1, a2, a3, a4, a5, a6⟩
  · have hO : OL e f w' base none 0 (l ++ r) := ⟨by rw [hlen2, List.map_append, hz]; rw [hz] at q1; exact q1, by omega⟩
    have := hK none 0 w' hO q2 (by intro g hg; cases hg)
    rw [hlen2, hz] at this
    exact this
  · have hO : OL e f w' base (some ⟨g, 0, none⟩) cap (l ++ r) := ⟨by rw [hlen2, List.map_append]; exact q1, by omega⟩
    have := hK (some ⟨g, 0, none⟩) cap w' hO q2 (by
      intro g' hg' hlt
      simp only [Option.some.injEq, Addr.mk.injEq, and_true] at hg'
      subst hg'
      rcases q4 with q | q
      · rcases hown.form with ⟨rfl, _⟩ | ⟨g2, rfl, _⟩
        · simp [Value.ownBlock] at q
        · simp [Value.ownBlock] at q; subst q; rfl
      · simp [Value.ownBlock] at q; omega)
    rw [hlen2] at this
    exact this
end Go.Proofs.YtbgggepdlkbpoaaGreatDoor
