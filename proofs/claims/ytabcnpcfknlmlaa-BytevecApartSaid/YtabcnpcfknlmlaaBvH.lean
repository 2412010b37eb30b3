/- The walk of the law BytevecApart. -/
import Derived.Test.YtabcnpcfknlmlaaBvQ
namespace Go.Proofs.Ytabcnpcfknlmlaa
open Go.RowKit


set_option maxRecDepth 100000 in
set_option maxHeartbeats 16000000 in
theorem apart_walk (A : Option Addr) (c : Nat) (l : List UInt8) (at_ size : Nat) (big : Bool) (vx vy : Value) (r i r' i' : Rw) (w : World) (hat : at_ < 256) (hsz : size < 256)
    (h : RB w w.heap.size A c l) (hx : VN w w.heap.size vx r i) (hy : VN w w.heap.size vy r' i') :
    Calls Try.prog 5 #[.slice A l.length c, .int .u8 (at_ : Int), .int .u8 (size : Int), .bool big, vx, vy] w fun e w' => e = .returned (.bool true) ∧ Below w.heap.size w w' := by
  have hbig := h.big
  obtain ⟨xs1, xa1, xb1⟩ := r
  obtain ⟨xs2, xa2, xb2⟩ := i
  obtain ⟨ys1, ya1, yb1⟩ := r'
  obtain ⟨ys2, ya2, yb2⟩ := i'
  obtain ⟨xA1, xc1, xD1, xd1, xA2, xc2, xD2, xd2, rfl, x1, x2, x3, x4⟩ := hx
  obtain ⟨yA1, yc1, yD1, yd1, yA2, yc2, yD2, yd2, rfl, y1, y2, y3, y4⟩ := hy
  dsimp only at x1 x2 x3 x4 y1 y2 y3 y4 ⊢
  obtain ⟨S, hS, S1, S8⟩ : ∃ S : Nat, (size : Int) % 8 + 1 = (S : Int) ∧ 1 ≤ S ∧ S ≤ 8 := ⟨size % 8 + 1, by omega, by omega, by omega⟩
  obtain ⟨F, hF, F40⟩ : ∃ F : Nat, (at_ : Int) % 40 = (F : Int) ∧ F < 40 := ⟨at_ % 40, by omega, by omega⟩
  have B1 := bal w (.cells #[.bool xs1, .slice xA1 xa1.length xc1, .slice xD1 xb1.length xd1, .bool xs2, .slice xA2 xa2.length xc2, .slice xD2 xb2.length xd2] 27)
  have B2 := bal (w.alloc (.cells #[.bool xs1, .slice xA1 xa1.length xc1, .slice xD1 xb1.length xd1, .bool xs2, .slice xA2 xa2.length xc2, .slice xD2 xb2.length xd2] 27)) (.cells #[.bool ys1, .slice yA1 ya1.length yc1, .slice yD1 yb1.length yd1, .bool ys2, .slice yA2 ya2.length yc2, .slice yD2 yb2.length yd2] 27)
  have C2 := bt B1 B2
  have z1 : (w.alloc (.cells #[.bool xs1, .slice xA1 xa1.length xc1, .slice xD1 xb1.length xd1, .bool xs2, .slice xA2 xa2.length xc2, .slice xD2 xb2.length xd2] 27)).heap.size = w.heap.size + 1 := by simp
  have SX := (SB.new w [.bool xs1, .slice xA1 xa1.length xc1, .slice xD1 xb1.length xd1, .bool xs2, .slice xA2 xa2.length xc2, .slice xD2 xb2.length xd2] 27).nx B2
  have SY := SB.new (w.alloc (.cells #[.bool xs1, .slice xA1 xa1.length xc1, .slice xD1 xb1.length xd1, .bool xs2, .slice xA2 xa2.length xc2, .slice xD2 xb2.length xd2] 27)) [.bool ys1, .slice yA1 ya1.length yc1, .slice yD1 yb1.length yd1, .bool ys2, .slice yA2 ya2.length yc2, .slice yD2 yb2.length yd2] 27
  rw [z1] at SY
  have m0 := SX.cell 0
  have m1 := SX.cell 1
  have m2 := SX.cell 2
  have m3 := SX.cell 3
  have m4 := SX.cell 4
  have m5 := SX.cell 5
  have hp1 := put_any A c l.length l (F : Int) (S : Int) big true (.agg #[.bool xs1, .slice xA1 xa1.length xc1, .slice xD1 xb1.length xd1, .bool xs2, .slice xA2 xa2.length xc2, .slice xD2 xb2.length xd2]) ⟨xs1, xa1, xb1⟩ ⟨xs2, xa2, xb2⟩ _ rfl (RM.step h C2 C2.size) (vns x1 x2 x3 x4 (C2)) (by omega) (by omega) (by omega) (by omega)
  obtain ⟨x, hxq⟩ : ∃ x, putA l (F : Int) (S : Int) big true ⟨xs1, xa1, xb1⟩ ⟨xs2, xa2, xb2⟩ = x := ⟨_, rfl⟩
  rw [hxq] at hp1
  obtain ⟨p, k⟩ := x
  by_cases hk : k = 0
  · subst hk
    obtain ⟨f1, cb, f2, f3, f4⟩ := put_ok hxq
    have hlen : p.length = l.length := by rw [f3, putL_len (by omega)]
    have HL := Lib.hid hlen
    have hne : ((p.length : Int) != (l.length : Int)) = false := by rw [hlen]; simp
    have hout : ∀ j, j < l.length → (j < F ∨ F + S ≤ j) → bg p j = bg l j := fun j h1 h2 => by rw [f3]; exact putL_out (by omega) h1 (by omega)
    clear hlen hxq
    have F2 := Lib.hid f2
    have F3 := Lib.hid f3
    have F4 := Lib.hid f4
    clear f2 f3 f4
    go_enter Try.func5, Try.ntmps5
    go_wp2_with fail
    refine hp1.mono ?_; rintro e w3 ⟨PA, pc, rfl, OP, B3⟩
    dsimp only at OP
    have C3 := bt C2 B3
    go_wp2_with fail
    refine (awake5_any _).mono ?_; rintro e w4 ⟨rfl, B4⟩
    have C4 := bt C3 B4
    go_wp2_with fail
    go_loopg [17] l.length (fun gg iv wr => ∃ k : Nat, k ≤ l.length ∧ l.length - k = gg ∧ iv = .int .i64 (k : Int) ∧ Below w4.heap.size w4 wr)
    case atStart => exact ⟨0, Nat.zero_le _, rfl, rfl, Below.refl _ _⟩
    case round =>
      obtain ⟨k, hk, rfl, rfl, Bl⟩ := hrel
      by_cases h0 : k < l.length
      · have hpl : k < p.length := by rw [HL.out]; exact h0
        obtain ⟨b8, o8, rfl, _, hx8⟩ := RM.at_ (RM.step (RM.step (OM.rl OP) B4 B4.size) Bl Bl.size) (by omega)
        obtain ⟨b9, o9, rfl, _, hx9⟩ := RM.at_ (RM.step (RM.step h C4 C4.size) Bl Bl.size) (by omega)
        have q8 := hx8 k _ (bg_get? hpl)
        have q9 := hx9 k _ (bg_get? h0)
        simp only [f8] at q8 q9
        clear hx8 hx9
        have ew : IntKind.i64.wrap ((F : Int) + (S : Int)) = (F : Int) + (S : Int) := IntWalk.i64_in _ (by omega)
        have hi1 : (k : Int) < (p.length : Int) := by omega
        have hi2 : (k : Int) < (l.length : Int) := by omega
        have hi0 : (0 : Int) ≤ (k : Int) := by omega
        by_cases c1 : k < F
        · have ho := hout k h0 (.inl c1)
          have d1 : (k : Int) < (F : Int) := by omega
          rw [ho] at q8
          have tq : ((((bg l k).toNat : Int)) != ((bg l k).toNat : Int)) = false := by simp
          clear hout ho
          go_wp2_with fail
          go_quiet (fail)
          go_wp2_with fail
          go_roundg (l.length - (k + 1))
          case measure => omega
          case rel => exact ⟨k + 1, by omega, rfl, by go_num, bdN Bl _⟩
        · by_cases c2 : F + S ≤ k
          · have ho := hout k h0 (.inr c2)
            have d1 : decide ((k : Int) < (F : Int)) = false := decide_eq_false (by omega)
            have d2 : (F : Int) + (S : Int) ≤ (k : Int) := by omega
            rw [ho] at q8
            have tq : ((((bg l k).toNat : Int)) != ((bg l k).toNat : Int)) = false := by simp
            clear hout ho
            go_wp2_with fail
            go_quiet (fail)
            go_wp2_with fail
            go_roundg (l.length - (k + 1))
            case measure => omega
            case rel => exact ⟨k + 1, by omega, rfl, by go_num, bdN Bl _⟩
          · have d1 : decide ((k : Int) < (F : Int)) = false := decide_eq_false (by omega)
            have d2 : decide ((F : Int) + (S : Int) ≤ (k : Int)) = false := decide_eq_false (by omega)
            clear hout
            go_wp2_with fail
            go_quiet (fail)
            go_wp2_with fail
            go_roundg (l.length - (k + 1))
            case measure => omega
            case rel => exact ⟨k + 1, by omega, rfl, by go_num, bdN Bl _⟩
      · obtain rfl : k = l.length := by omega
        clear hout hne h0
        have C5 := bt C4 Bl
        have SYr := ((SY.nx B3).nx B4).nx Bl
        have n0 := SYr.cell 0
        have n1 := SYr.cell 1
        have n2 := SYr.cell 2
        have n3 := SYr.cell 3
        have n4 := SYr.cell 4
        have n5 := SYr.cell 5
        have ew : IntKind.i64.wrap ((F : Int) + (S : Int)) = (F : Int) + (S : Int) := IntWalk.i64_in _ (by omega)
        have hp2 := put_any PA pc p.length p ((F : Int) + (S : Int)) (S : Int) big true (.agg #[.bool ys1, .slice yA1 ya1.length yc1, .slice yD1 yb1.length yd1, .bool ys2, .slice yA2 ya2.length yc2, .slice yD2 yb2.length yd2]) ⟨ys1, ya1, yb1⟩ ⟨ys2, ya2, yb2⟩ wr rfl (RM.step (RM.step (OM.rl OP) B4 B4.size) Bl Bl.size) (vns y1 y2 y3 y4 (C5)) (by omega) (by omega) (by omega) (by omega)
        obtain ⟨x2, hxq2⟩ : ∃ x, putA p ((F : Int) + (S : Int)) (S : Int) big true ⟨ys1, ya1, yb1⟩ ⟨ys2, ya2, yb2⟩ = x := ⟨_, rfl⟩
        rw [hxq2] at hp2
        obtain ⟨q, k2⟩ := x2
        have HX2 := Lib.hid hxq2
        clear hxq2
        go_wp2_with fail
        refine hp2.mono ?_; rintro e w6 ⟨QA, qc, rfl, OQ, B6⟩
        dsimp only at OQ
        have C6 := bt C5 B6
        by_cases hk2 : k2 = 0
        · subst hk2
          have hxq2 := HX2.out
          rw [show (F : Int) + (S : Int) = ((F + S : Nat) : Int) by omega] at hxq2
          obtain ⟨e1, cb2, e2, e3, e4⟩ := put_ok hxq2
          clear hxq2
          have hpl := HL.out
          have hql : q.length = p.length := by rw [e3, putL_len (by omega)]
          have hsub1 : (q.drop F).take S = cb := by rw [e3, putL_ahead (by omega), F3.out, ← F4.out]; exact putL_same (by rw [F4.out]; omega)
          have hsub2 : (q.drop (F + S)).take S = cb2 := by rw [e3, ← e4]; exact putL_same (by rw [e4]; omega)
          obtain ⟨hg1, hn1⟩ := get_put (q := q) (a := F) S1 (by omega) F2.out hsub1 (by omega) (by omega)
          obtain ⟨hg2, hn2⟩ := get_put (q := q) (a := F + S) S1 (by omega) e2 hsub2 (by omega) (by omega)
          rw [show ((F + S : Nat) : Int) = (F : Int) + (S : Int) by omega] at hg2
          have hG1 := get_any QA qc q.length q (F : Int) (S : Int) big true w6 rfl (OM.rl OQ) (by omega) (by omega) (by omega) (by omega)
          have hG2 := fun w' x => get_any QA qc q.length q ((F : Int) + (S : Int)) (S : Int) big true w' rfl x (by omega) (by omega) (by omega) (by omega)
          rw [hg1] at hG1
          simp only [hg2] at hG2
          have hS1 := fun v u w' x y => esame_any v u ⟨xs1, xa1, xb1⟩ ⟨xs2, xa2, xb2⟩ ⟨xs1, xa1, xb1⟩ ⟨xs2, xa2, xb2⟩ w' x y
          have hS2 := fun v u w' x y => esame_any v u ⟨ys1, ya1, yb1⟩ ⟨ys2, ya2, yb2⟩ ⟨ys1, ya1, yb1⟩ ⟨ys2, ya2, yb2⟩ w' x y
          simp only [sameB_self hn1] at hS1
          simp only [sameB_self hn2] at hS2
          clear e1 e2 e3 e4 hpl hql hsub1 hsub2 hg1 hg2 hn1 hn2
          go_wp2_with fail
          refine hG1.mono ?_; rintro e w7 ⟨E7, e7, G7, g7, I7, i7, J7, j7, rfl, OA7, OB7, OC7, OD7, B7⟩
          dsimp only at OA7 OB7 OC7 OD7
          have B8 := bal w7 (.cells #[.bool xs1, .slice E7 xa1.length e7, .slice G7 xb1.length g7, .bool xs2, .slice I7 xa2.length i7, .slice J7 xb2.length j7] 27)
          have S19 := SB.new w7 [.bool xs1, .slice E7 xa1.length e7, .slice G7 xb1.length g7, .bool xs2, .slice I7 xa2.length i7, .slice J7 xb2.length j7] 27
          go_wp2_with fail
          refine (hG2 _ (RM.step (OM.rl OQ) (bt B7 B8) (bt B7 B8).size)).mono ?_; rintro e w9 ⟨E9, e9, G9, g9, I9, i9, J9, j9, rfl, OA9, OB9, OC9, OD9, B9⟩
          dsimp only at OA9 OB9 OC9 OD9
          have B10 := bal w9 (.cells #[.bool ys1, .slice E9 ya1.length e9, .slice G9 yb1.length g9, .bool ys2, .slice I9 ya2.length i9, .slice J9 yb2.length j9] 27)
          have S21 := SB.new w9 [.bool ys1, .slice E9 ya1.length e9, .slice G9 yb1.length g9, .bool ys2, .slice I9 ya2.length i9, .slice J9 yb2.length j9] 27
          have SXr := ((((((SX.nx B3).nx B4).nx Bl).nx B6).nx B7).nx B8).nx B9
          have SXs := SXr.nx B10
          have S19s := (S19.nx B9).nx B10
          have SYs := ((((SYr.nx B6).nx B7).nx B8).nx B9).nx B10
          have a0' := S19s.cell 0
          have a1' := S19s.cell 1
          have a2' := S19s.cell 2
          have a3' := S19s.cell 3
          have a4' := S19s.cell 4
          have a5' := S19s.cell 5
          have b0' := SXs.cell 0
          have b1' := SXs.cell 1
          have b2' := SXs.cell 2
          have b3' := SXs.cell 3
          have b4' := SXs.cell 4
          have b5' := SXs.cell 5
          have C10 := bt (bt (bt (bt C6 B7) B8) B9) B10
          have D7 := bt (bt B8 B9) B10
          go_wp2_with fail
          refine (hS1 _ _ _ ⟨E7, e7, G7, g7, I7, i7, J7, j7, rfl, st OA7.rw D7, st OB7.rw D7, st OC7.rw D7, st OD7.rw D7⟩ (vns x1 x2 x3 x4 (C10))).mono ?_; rintro e w11 ⟨rfl, B11⟩
          have S21s := S21.nx B11
          have SYt := SYs.nx B11
          have p0' := S21s.cell 0
          have p1' := S21s.cell 1
          have p2' := S21s.cell 2
          have p3' := S21s.cell 3
          have p4' := S21s.cell 4
          have p5' := S21s.cell 5
          have q0' := SYt.cell 0
          have q1' := SYt.cell 1
          have q2' := SYt.cell 2
          have q3' := SYt.cell 3
          have q4' := SYt.cell 4
          have q5' := SYt.cell 5
          have C11 := bt C10 B11
          have D9 := bt B10 B11
          go_wp2_with fail
          refine (hS2 _ _ _ ⟨E9, e9, G9, g9, I9, i9, J9, j9, rfl, st OA9.rw D9, st OB9.rw D9, st OC9.rw D9, st OD9.rw D9⟩ (vns y1 y2 y3 y4 (C11))).mono ?_; rintro e w12 ⟨rfl, B12⟩
          go_wp2_with fail
          go_ret
          exact ⟨rfl, bt C11 B12⟩
        · have hkb2 : (k2 == 0) = false := beq_eq_false_iff_ne.2 hk2
          clear hk2 HX2
          go_wp2_with fail
          go_ret
          exact ⟨rfl, C6⟩
  · have hkb : (k == 0) = false := beq_eq_false_iff_ne.2 hk
    clear hk hxq
    go_enter Try.func5, Try.ntmps5
    go_wp2_with fail
    refine hp1.mono ?_; rintro e w3 ⟨PA, pc, rfl, OP, B3⟩
    dsimp only at OP
    have C3 := bt C2 B3
    go_wp2_with fail
    refine (awake5_any _).mono ?_; rintro e w4 ⟨rfl, B4⟩
    have C4 := bt C3 B4
    go_wp2_with fail
    refine (awake5_any _).mono ?_; rintro e w5 ⟨rfl, B5⟩
    go_wp2_with fail
    go_ret
    exact ⟨rfl, bt C4 B5⟩


theorem apart_int (A : Option Addr) (c : Nat) (l : List UInt8) (at_ size : Int) (big : Bool) (vx : Value) (r i : Rw) (vy : Value) (r' i' : Rw) (w : World)
    (h : RB w w.heap.size A c l) (hat : 0 ≤ at_ ∧ at_ ≤ 255) (hsz : 0 ≤ size ∧ size ≤ 255) (hx : VN w w.heap.size vx r i) (hy : VN w w.heap.size vy r' i') :
    Calls Try.prog 5 #[.slice A l.length c, .int .u8 at_, .int .u8 size, .bool big, vx, vy] w fun e w' => e = .returned (.bool true) ∧ Below w.heap.size w w' := by
  obtain ⟨k, rfl⟩ := Int.eq_ofNat_of_zero_le hat.1
  obtain ⟨m, rfl⟩ := Int.eq_ofNat_of_zero_le hsz.1
  exact apart_walk A c l k m big vx vy r i r' i' w (by omega) (by omega) h hx hy

end Go.Proofs.Ytabcnpcfknlmlaa
