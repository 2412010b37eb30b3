/- Merged texts: DatI, DatJ, DatK, DatO. -/
import Derived.Test.YtilhnjecnhpmlaaDoorGG
import Derived.Test.YtilhnjecnhpmlaaDoorGF
namespace Go.Proofs.YtilhnjecnhpmlaaDoor
open Go.RowKit

set_option maxRecDepth 100000 in
set_option maxHeartbeats 8000000 in
theorem rdnoRat_any (v : Value) (s : Bool) (a b : List Nat) (w : World) (h : VR w w.heap.size v s a b) :
    Calls Tryd.prog 68 #[v] w fun e w' => e = .returned (.bool (noR ⟨s, a, b⟩)) ∧ Below w.heap.size w w' := by
  obtain ⟨A, c, D, d, rfl, ha, hb⟩ := h
  have la := ha.big
  have lb := hb.big
  have B1 := bal w (.cells #[.bool s, .slice A a.length c, .slice D b.length d] 26)
  have s1 := SB.new w [.bool s, .slice A a.length c, .slice D b.length d] 26
  have m0 := s1.cell 0
  have m1 := s1.cell 1
  have m2 := s1.cell 2
  have hw : IntKind.i64.wrap ((a.length : Int) + (b.length : Int)) = (a.length : Int) + (b.length : Int) := IntWalk.i64_in _ (by omega)
  unfold noR
  dsimp only
  generalize a.length = n at *
  generalize b.length = m at *
  clear ha hb s1
  cases s with
  | true =>
    go_enter Tryd.func68, Tryd.ntmps68
    go_wp2_with fail
    go_ret
    exact ⟨by simp, B1⟩
  | false =>
    by_cases h0 : n = 0 ∧ m = 0
    · have t1 : ((n : Int) + (m : Int) == 0) = true := by rw [beq_iff_eq]; omega
      rw [decide_eq_true h0.1, decide_eq_true h0.2]
      clear h0
      go_enter Tryd.func68, Tryd.ntmps68
      go_wp2_with fail
      go_ret
      exact ⟨by simp, B1⟩
    · have t1 : ((n : Int) + (m : Int) == 0) = false := beq_eq_false_iff_ne.2 (by omega)
      rw [show (decide (n = 0) && decide (m = 0)) = false by rw [← Bool.decide_and]; exact decide_eq_false h0]
      clear h0
      go_enter Tryd.func68, Tryd.ntmps68
      go_wp2_with fail
      go_ret
      exact ⟨by simp, B1⟩
set_option maxRecDepth 100000 in
set_option maxHeartbeats 8000000 in
theorem rdisChar_any (n : Int) (w : World) : Calls Tryd.prog 69 #[.int .i64 n] w fun e w' => e = .returned (.bool (isCharB n)) ∧ w = w' := by
  obtain ⟨z, hz⟩ : ∃ z, Hid (isCharB n = z) := ⟨_, rfl⟩
  rw [hz.out]
  by_cases h1 : 0 ≤ n
  · have t1 : decide (0 ≤ n) = true := decide_eq_true h1
    by_cases h2 : n ≤ 1114111
    · have t2 : decide (n ≤ 1114111) = true := decide_eq_true h2
      by_cases h3 : n < 55296
      · have t3 : decide (n < 55296) = true := decide_eq_true h3
        go_enter Tryd.func69, Tryd.ntmps69
        go_wp2_with fail
        go_ret
        refine ⟨?_, rfl⟩
        rw [← hz.out]; unfold isCharB; simp; omega
      · have t3 : decide (n < 55296) = false := decide_eq_false h3
        by_cases h4 : 57343 < n
        · have t4 : decide (57343 < n) = true := decide_eq_true h4
          go_enter Tryd.func69, Tryd.ntmps69
          go_wp2_with fail
          go_ret
          refine ⟨?_, rfl⟩
          rw [← hz.out]; unfold isCharB; simp; omega
        · have t4 : decide (57343 < n) = false := decide_eq_false h4
          go_enter Tryd.func69, Tryd.ntmps69
          go_wp2_with fail
          go_ret
          refine ⟨?_, rfl⟩
          rw [← hz.out]; unfold isCharB; simp; omega
    · have t2 : decide (n ≤ 1114111) = false := decide_eq_false h2
      go_enter Tryd.func69, Tryd.ntmps69
      go_wp2_with fail
      go_ret
      refine ⟨?_, rfl⟩
      rw [← hz.out]; unfold isCharB; simp; omega
  · have t1 : decide (0 ≤ n) = false := decide_eq_false h1
    go_enter Tryd.func69, Tryd.ntmps69
    go_wp2_with fail
    go_ret
    refine ⟨?_, rfl⟩
    rw [← hz.out]; unfold isCharB; simp; omega

set_option maxRecDepth 100000 in
set_option maxHeartbeats 8000000 in
theorem rdshape_any (valid : ByteArray → Bool) (d : Dat) (v : Value) (w : World) (h : RD w w.heap.size d v)
    (hv : ∀ w', Below w.heap.size w w' → Calls Tryd.prog 66 #[.string d.t] w' fun e w'' => e = .returned (.bool (valid d.t)) ∧ Below w'.heap.size w' w'') :
    Calls Tryd.prog 51 #[v] w fun e w' => e = .returned (.bool (d.shape valid)) ∧ Below w.heap.size w w' := by
  obtain ⟨A1, c1, D1, d1, A2, c2, D2, d2, R, rc, L, lc, rfl, ⟨h1, h2, h3, h4, -⟩, ⟨hk, hn, ht⟩, -, -⟩ := h.view
  unfold Dat.shape
  generalize d.k = k at *
  generalize d.n = n at *
  generalize d.re = r at *
  generalize d.im = i at *
  generalize d.t = t at *
  generalize d.raw.length = rw_ at *
  generalize d.l.length = ll at *
  clear h
  obtain ⟨num, hnum⟩ : ∃ num, Hid ((if k = 3 then nB r i else noR r && noR i) = num) := ⟨_, rfl⟩
  obtain ⟨tx, htx⟩ : ∃ tx, Hid (textK k = tx) := ⟨_, rfl⟩
  obtain ⟨vl, hvl⟩ : ∃ vl, Hid (valid t = vl) := ⟨_, rfl⟩
  rw [hnum.out, htx.out, hvl.out]
  rw [hvl.out] at hv
  clear hvl
  obtain ⟨z, hz⟩ : ∃ z, Hid ((num && ((tx || decide (t.size = 0)) && (vl && ((decide (k = 7) || decide (rw_ = 0)) &&
    (if k = 8 then decide (n = 0) && decide (ll = 2) else if k = 9 then decide (n = 0) else if k = 2 then decide (n = 0 ∨ n = 1) && decide (ll = 0)
      else if k = 4 then isCharB n && decide (ll = 0) else decide (1 ≤ k ∧ k ≤ 11) && (decide (n = 0) && decide (ll = 0))))))) = z) := ⟨_, rfl⟩
  rw [hz.out]
  have S0 := SB.new w [.int .i64 k, .int .i64 n, .bool r.s, .slice A1 r.a.length c1, .slice D1 r.b.length d1, .bool i.s, .slice A2 i.a.length c2, .slice D2 i.b.length d2, .string t, .slice R rw_ rc, .slice L ll lc] 31
  have C0 := bal w (.cells #[.int .i64 k, .int .i64 n, .bool r.s, .slice A1 r.a.length c1, .slice D1 r.b.length d1, .bool i.s, .slice A2 i.a.length c2, .slice D2 i.b.length d2, .string t, .slice R rw_ rc, .slice L ll lc] 31)
  have q1 : VN (w.alloc (.cells #[.int .i64 k, .int .i64 n, .bool r.s, .slice A1 r.a.length c1, .slice D1 r.b.length d1, .bool i.s, .slice A2 i.a.length c2, .slice D2 i.b.length d2, .string t, .slice R rw_ rc, .slice L ll lc] 31)) (w.alloc (.cells #[.int .i64 k, .int .i64 n, .bool r.s, .slice A1 r.a.length c1, .slice D1 r.b.length d1, .bool i.s, .slice A2 i.a.length c2, .slice D2 i.b.length d2, .string t, .slice R rw_ rc, .slice L ll lc] 31)).heap.size (.agg #[.bool r.s, .slice A1 r.a.length c1, .slice D1 r.b.length d1, .bool i.s, .slice A2 i.a.length c2, .slice D2 i.b.length d2]) r i := VN.st ⟨A1, c1, D1, d1, A2, c2, D2, d2, rfl, h1, h2, h3, h4⟩ C0
  have q2 : VR (w.alloc (.cells #[.int .i64 k, .int .i64 n, .bool r.s, .slice A1 r.a.length c1, .slice D1 r.b.length d1, .bool i.s, .slice A2 i.a.length c2, .slice D2 i.b.length d2, .string t, .slice R rw_ rc, .slice L ll lc] 31)) (w.alloc (.cells #[.int .i64 k, .int .i64 n, .bool r.s, .slice A1 r.a.length c1, .slice D1 r.b.length d1, .bool i.s, .slice A2 i.a.length c2, .slice D2 i.b.length d2, .string t, .slice R rw_ rc, .slice L ll lc] 31)).heap.size (.agg #[.bool r.s, .slice A1 r.a.length c1, .slice D1 r.b.length d1]) r.s r.a r.b := VR.st ⟨A1, c1, D1, d1, rfl, h1, h2⟩ C0
  have q3 : VR (w.alloc (.cells #[.int .i64 k, .int .i64 n, .bool r.s, .slice A1 r.a.length c1, .slice D1 r.b.length d1, .bool i.s, .slice A2 i.a.length c2, .slice D2 i.b.length d2, .string t, .slice R rw_ rc, .slice L ll lc] 31)) (w.alloc (.cells #[.int .i64 k, .int .i64 n, .bool r.s, .slice A1 r.a.length c1, .slice D1 r.b.length d1, .bool i.s, .slice A2 i.a.length c2, .slice D2 i.b.length d2, .string t, .slice R rw_ rc, .slice L ll lc] 31)).heap.size (.agg #[.bool i.s, .slice A2 i.a.length c2, .slice D2 i.b.length d2]) i.s i.a i.b := VR.st ⟨A2, c2, D2, d2, rfl, h3, h4⟩ C0
  clear h1 h2 h3 h4
  obtain ⟨W0, hW0⟩ : ∃ W0, W0 = w.alloc (.cells #[.int .i64 k, .int .i64 n, .bool r.s, .slice A1 r.a.length c1, .slice D1 r.b.length d1, .bool i.s, .slice A2 i.a.length c2, .slice D2 i.b.length d2, .string t, .slice R rw_ rc, .slice L ll lc] 31) := ⟨_, rfl⟩
  go_enter Tryd.func51, Tryd.ntmps51
  go_upto_region 1 with fail
  rw [← hW0] at S0 C0 q1 q2 q3 ⊢
  clear hW0
  have hv0 := hv W0 C0
  clear hv
  have i0 := S0.cell 0; have i8 := S0.cell 8
  by_cases k1 : 1 ≤ k
  rotate_left
  · have t1 : decide (k < 1) = true := decide_eq_true (by omega)
    have t2 : k < 1 := by omega
    have hf : Hid (z = false) := Lib.hid (by rw [← hz.out] <;> (rw [if_neg (by omega), if_neg (by omega), if_neg (by omega), if_neg (by omega), decide_eq_false (p := 1 ≤ k ∧ k ≤ 11) (by omega)]; simp))
    clear hz
    go_wp2_with fail
    go_ret
    exact ⟨by rw [hf.out]; rfl, C0⟩
  have t1 : decide (k < 1) = false := decide_eq_false (by omega)
  have t2 : ¬ k < 1 := by omega
  by_cases k11 : k ≤ 11
  rotate_left
  · have t3 : decide (11 < k) = true := decide_eq_true (by omega)
    have t4 : 11 < k := by omega
    have hf : Hid (z = false) := Lib.hid (by rw [← hz.out] <;> (rw [if_neg (by omega), if_neg (by omega), if_neg (by omega), if_neg (by omega), decide_eq_false (p := 1 ≤ k ∧ k ≤ 11) (by omega)]; simp))
    clear hz
    go_wp2_with fail
    go_ret
    exact ⟨by rw [hf.out]; rfl, C0⟩
  have t3 : decide (11 < k) = false := decide_eq_false (by omega)
  have t4 : ¬ 11 < k := by omega
  go_wp2_with fail
  refine hv0.mono ?_; rintro e w3 ⟨rfl, B3⟩
  clear hv0 i0 i8
  have S3 := S0.nx B3
  have C3 := bt C0 B3
  have q1 := q1.st B3
  have q2 := q2.st B3
  have q3 := q3.st B3
  clear S0 C0
  cases vl with
  | false =>
    have hf : Hid (z = false) := Lib.hid (by rw [← hz.out] <;> (simp))
    clear hz
    go_wp2_with fail
    go_ret
    exact ⟨by rw [hf.out]; rfl, C3⟩
  | true =>
    go_upto_region 3 with fail
    have i0 := S3.cell 0; have i1 := S3.cell 1; have i2 := S3.cell 2; have i3 := S3.cell 3; have i4 := S3.cell 4; have i5 := S3.cell 5; have i6 := S3.cell 6; have i7 := S3.cell 7
    go_upto_if 19 with fail
    go_cut [] (fun wx => num = true ∧ SB wx w.heap.size [.int .i64 k, .int .i64 n, .bool r.s, .slice A1 r.a.length c1, .slice D1 r.b.length d1, .bool i.s, .slice A2 i.a.length c2, .slice D2 i.b.length d2, .string t, .slice R rw_ rc, .slice L ll lc] ∧ Below w.heap.size w wx)
    case first =>
      have hn_ := hnum.out
      by_cases h3 : k = 3
      · have tk3 : (k == 3) = true := by rw [h3]; rfl
        rw [if_pos h3] at hn_
        clear h3
        go_wp2_with fail
        refine (resound_any _ r i _ q1).mono ?_; rintro e w4 ⟨rfl, B4⟩
        rw [hn_]
        clear hn_ i0 i1 i2 i3 i4 i5 i6 i7
        cases num with
        | true =>
          go_wp2_with fail
          go_meet
          exact ⟨by trivial, S3.nx B4, bt C3 B4⟩
        | false =>
          have hf : Hid (z = false) := Lib.hid (by rw [← hz.out] <;> (rfl))
          clear hz
          go_wp2_with fail
          go_ret
          exact ⟨by rw [hf.out]; rfl, bt C3 B4⟩
      · have tk3 : (k == 3) = false := beq_eq_false_iff_ne.2 h3
        rw [if_neg h3] at hn_
        clear h3
        go_wp2_with fail
        refine (rdnoRat_any _ r.s r.a r.b _ q2).mono ?_; rintro e w4 ⟨rfl, B4⟩
        clear i0 i1 i2 i3 i4 i5 i6 i7
        have S4 := S3.nx B4
        have q3 := q3.st B4
        have hn2 : (noR ⟨r.s, r.a, r.b⟩ && noR ⟨i.s, i.a, i.b⟩) = num := hn_
        clear hn_
        have i0 := S4.cell 0; have i1 := S4.cell 1; have i2 := S4.cell 2; have i3 := S4.cell 3; have i4 := S4.cell 4; have i5 := S4.cell 5; have i6 := S4.cell 6; have i7 := S4.cell 7
        cases hx : noR ⟨r.s, r.a, r.b⟩ with
        | false =>
          rw [hx] at hn2
          have hn2 := hn2.symm
          subst hn2
          have hf : Hid (z = false) := Lib.hid (by rw [← hz.out] <;> (rfl))
          clear hz
          go_wp2_with fail
          go_ret
          exact ⟨by rw [hf.out]; rfl, bt C3 B4⟩
        | true =>
          rw [hx, Bool.true_and] at hn2
          go_wp2_with fail
          refine (rdnoRat_any _ i.s i.a i.b _ q3).mono ?_; rintro e w5 ⟨rfl, B5⟩
          rw [hn2]
          cases num with
          | true =>
            go_wp2_with fail
            go_meet
            exact ⟨by trivial, S4.nx B5, bt (bt C3 B4) B5⟩
          | false =>
            have hf : Hid (z = false) := Lib.hid (by rw [← hz.out] <;> (rfl))
            clear hz
            go_wp2_with fail
            go_ret
            exact ⟨by rw [hf.out]; rfl, bt (bt C3 B4) B5⟩
    case rest =>
      obtain ⟨rfl, S5, C5⟩ := hcut
      generalize hw5 : wc = w5 at *
      clear hw5 S3 C3 q1 q2 q3 i0 i1 i2 i3 i4 i5 i6 i7 hnum B3
      go_upto_region 8 with fail
      obtain ⟨ok, hok⟩ : ∃ ok, Hid ((tx || decide (t.size = 0)) = ok) := ⟨_, rfl⟩
      rw [hok.out] at hz
      go_cut [53] (fun s53 wx => s53 = .bool (!ok) ∧ SB wx w.heap.size [.int .i64 k, .int .i64 n, .bool r.s, .slice A1 r.a.length c1, .slice D1 r.b.length d1, .bool i.s, .slice A2 i.a.length c2, .slice D2 i.b.length d2, .string t, .slice R rw_ rc, .slice L ll lc] ∧ Below w.heap.size w wx)
      case first =>
        have i0 := S5.cell 0; have i8 := S5.cell 8
        have ho_ := hok.out
        by_cases h8 : t.size = 0
        · have l8 : t.toList = [] := by rw [Lib.toList_data]; exact List.eq_nil_of_length_eq_zero (by rw [← Lib.size_eq]; exact h8)
          rw [decide_eq_true h8, Bool.or_true] at ho_
          subst ho_
          clear h8
          go_wp2_with fail
          go_meet
          exact ⟨rfl, S5, C5⟩
        · have l8 : ¬ t.toList = [] := fun e => h8 (by rw [Lib.size_eq, ← Lib.toList_data, e]; rfl)
          rw [decide_eq_false h8, Bool.or_false, ← htx.out] at ho_
          unfold textK at ho_
          clear h8
          by_cases h5 : k = 5
          · have t5 : (k != 5) = false := by rw [h5]; rfl
            rw [decide_eq_true h5, Bool.true_or] at ho_
            subst ho_
            clear h5
            go_wp2_with fail
            go_meet
            exact ⟨rfl, S5, C5⟩
          · have t5 : (k != 5) = true := bne_iff_ne.2 h5
            rw [decide_eq_false h5, Bool.false_or] at ho_
            clear h5
            by_cases h6 : k = 6
            · have t6 : (k != 6) = false := by rw [h6]; rfl
              rw [decide_eq_true h6, Bool.true_or] at ho_
              subst ho_
              clear h6
              go_wp2_with fail
              go_meet
              exact ⟨rfl, S5, C5⟩
            · have t6 : (k != 6) = true := bne_iff_ne.2 h6
              rw [decide_eq_false h6, Bool.false_or] at ho_
              clear h6
              by_cases h11 : k = 11
              · have t11 : (k != 11) = false := by rw [h11]; rfl
                rw [decide_eq_true h11] at ho_
                subst ho_
                clear h11
                go_wp2_with fail
                go_meet
                exact ⟨rfl, S5, C5⟩
              · have t11 : (k != 11) = true := bne_iff_ne.2 h11
                rw [decide_eq_false h11] at ho_
                subst ho_
                clear h11
                go_wp2_with fail
                go_meet
                exact ⟨by first | rfl | simp [l8], S5, C5⟩
      case rest =>
        obtain ⟨rfl, S6, C6⟩ := hcut
        generalize hw6 : wc = w6 at *
        clear hw6 S5 C5 hok htx
        cases ok with
        | false =>
          have hf : Hid (z = false) := Lib.hid (by rw [← hz.out] <;> (simp))
          clear hz
          go_wp2_with fail
          go_ret
          exact ⟨by rw [hf.out]; rfl, C6⟩
        | true =>
          rw [Bool.not_true]
          go_upto_region 10 with fail
          obtain ⟨ok, hok⟩ : ∃ ok, Hid ((decide (k = 7) || decide (rw_ = 0)) = ok) := ⟨_, rfl⟩
          rw [hok.out] at hz
          go_cut [62] (fun s62 wx => s62 = .bool (!ok) ∧ SB wx w.heap.size [.int .i64 k, .int .i64 n, .bool r.s, .slice A1 r.a.length c1, .slice D1 r.b.length d1, .bool i.s, .slice A2 i.a.length c2, .slice D2 i.b.length d2, .string t, .slice R rw_ rc, .slice L ll lc] ∧ Below w.heap.size w wx)
          case first =>
            have i0 := S6.cell 0; have i9 := S6.cell 9
            have ho_ := hok.out
            by_cases h0 : rw_ = 0
            · have g1 : decide (0 < (rw_ : Int)) = false := decide_eq_false (by omega)
              have g2 : ¬ (0 < (rw_ : Int)) := by omega
              rw [decide_eq_true h0, Bool.or_true] at ho_
              subst ho_
              subst h0
              go_wp2_with fail
              go_meet
              exact ⟨rfl, S6, C6⟩
            · have g1 : decide (0 < (rw_ : Int)) = true := decide_eq_true (by omega)
              have g2 : 0 < (rw_ : Int) := by omega
              have g3 : 0 < rw_ := by omega
              rw [decide_eq_false h0, Bool.or_false] at ho_
              clear h0
              by_cases h7 : k = 7
              · have t7 : (k != 7) = false := by rw [h7]; rfl
                rw [decide_eq_true h7] at ho_
                subst ho_
                clear h7
                go_wp2_with fail
                go_meet
                exact ⟨rfl, S6, C6⟩
              · have t7 : (k != 7) = true := bne_iff_ne.2 h7
                rw [decide_eq_false h7] at ho_
                subst ho_
                clear h7
                go_wp2_with fail
                go_meet
                exact ⟨rfl, S6, C6⟩
          case rest =>
            obtain ⟨rfl, S7, C7⟩ := hcut
            generalize hw7 : wc = w7 at *
            clear hw7 S6 C6 hok
            cases ok with
            | false =>
              have hf : Hid (z = false) := Lib.hid (by rw [← hz.out] <;> (simp))
              clear hz
              go_wp2_with fail
              go_ret
              exact ⟨by rw [hf.out]; rfl, C7⟩
            | true =>
              rw [Bool.not_true]
              simp only [Bool.true_and] at hz
              rw [decide_eq_true (p := 1 ≤ k ∧ k ≤ 11) ⟨k1, k11⟩, Bool.true_and] at hz
              have i0 := S7.cell 0; have i1 := S7.cell 1; have i10 := S7.cell 10
              by_cases h2 : k = 2
              · have t2' : (k == 2) = true := by rw [h2]; rfl
                have t8' : (k == 8) = false := beq_eq_false_iff_ne.2 (by omega)
                have t9' : (k == 9) = false := beq_eq_false_iff_ne.2 (by omega)
                rw [if_neg (by omega), if_neg (by omega), if_pos h2] at hz
                clear h2
                by_cases hn0 : n = 0
                · have tn : (n != 0) = false := by rw [hn0]; rfl
                  rw [decide_eq_true (p := n = 0 ∨ n = 1) (.inl hn0), Bool.true_and] at hz
                  clear hn0
                  by_cases hl0 : ll = 0
                  · have tl : ((ll : Int) == 0) = true := by rw [hl0]; rfl
                    rw [decide_eq_true hl0] at hz
                    clear hl0
                    have hf : Hid (z = true) := Lib.hid (by rw [← hz.out] <;> (simp))
                    clear hz
                    go_wp2_with fail
                    go_ret
                    exact ⟨by rw [hf.out]; rfl, C7⟩
                  · have tl : ((ll : Int) == 0) = false := beq_eq_false_iff_ne.2 (by omega)
                    rw [decide_eq_false hl0] at hz
                    clear hl0
                    have hf : Hid (z = false) := Lib.hid (by rw [← hz.out] <;> (simp))
                    clear hz
                    go_wp2_with fail
                    go_ret
                    exact ⟨by rw [hf.out]; rfl, C7⟩
                · have tn : (n != 0) = true := bne_iff_ne.2 hn0
                  by_cases hn1 : n = 1
                  · have tn1 : (n != 1) = false := by rw [hn1]; rfl
                    rw [decide_eq_true (p := n = 0 ∨ n = 1) (.inr hn1), Bool.true_and] at hz
                    clear hn0 hn1
                    by_cases hl0 : ll = 0
                    · have tl : ((ll : Int) == 0) = true := by rw [hl0]; rfl
                      rw [decide_eq_true hl0] at hz
                      clear hl0
                      have hf : Hid (z = true) := Lib.hid (by rw [← hz.out] <;> (simp))
                      clear hz
                      go_wp2_with fail
                      go_ret
                      exact ⟨by rw [hf.out]; rfl, C7⟩
                    · have tl : ((ll : Int) == 0) = false := beq_eq_false_iff_ne.2 (by omega)
                      rw [decide_eq_false hl0] at hz
                      clear hl0
                      have hf : Hid (z = false) := Lib.hid (by rw [← hz.out] <;> (simp))
                      clear hz
                      go_wp2_with fail
                      go_ret
                      exact ⟨by rw [hf.out]; rfl, C7⟩
                  · have tn1 : (n != 1) = true := bne_iff_ne.2 hn1
                    rw [decide_eq_false (p := n = 0 ∨ n = 1) (by omega), Bool.false_and] at hz
                    clear hn0 hn1
                    have hf : Hid (z = false) := Lib.hid (by rw [← hz.out] <;> (rfl))
                    clear hz
                    go_wp2_with fail
                    go_ret
                    exact ⟨by rw [hf.out]; rfl, C7⟩
              have t2' : (k == 2) = false := beq_eq_false_iff_ne.2 h2
              by_cases h4 : k = 4
              · have t4' : (k == 4) = true := by rw [h4]; rfl
                have t8' : (k == 8) = false := beq_eq_false_iff_ne.2 (by omega)
                have t9' : (k == 9) = false := beq_eq_false_iff_ne.2 (by omega)
                rw [if_neg (by omega), if_neg (by omega), if_neg h2, if_pos h4] at hz
                clear h2 h4
                have hc := fun w' => rdisChar_any n w'
                cases hx : isCharB n with
                | false =>
                  rw [hx] at hc hz
                  rw [Bool.false_and] at hz
                  clear hx
                  go_wp2_with fail
                  refine (hc _).mono ?_; rintro e w8 ⟨rfl, rfl⟩
                  clear hc
                  have hf : Hid (z = false) := Lib.hid (by rw [← hz.out] <;> (rfl))
                  clear hz
                  go_wp2_with fail
                  go_ret
                  exact ⟨by rw [hf.out]; rfl, C7⟩
                | true =>
                  rw [hx] at hc hz
                  rw [Bool.true_and] at hz
                  clear hx
                  go_wp2_with fail
                  refine (hc _).mono ?_; rintro e w8 ⟨rfl, rfl⟩
                  clear hc
                  by_cases hl0 : ll = 0
                  · have tl : ((ll : Int) == 0) = true := by rw [hl0]; rfl
                    rw [decide_eq_true hl0] at hz
                    clear hl0
                    have hf : Hid (z = true) := Lib.hid (by rw [← hz.out] <;> (simp))
                    clear hz
                    go_wp2_with fail
                    go_ret
                    exact ⟨by rw [hf.out]; rfl, C7⟩
                  · have tl : ((ll : Int) == 0) = false := beq_eq_false_iff_ne.2 (by omega)
                    rw [decide_eq_false hl0] at hz
                    clear hl0
                    have hf : Hid (z = false) := Lib.hid (by rw [← hz.out] <;> (simp))
                    clear hz
                    go_wp2_with fail
                    go_ret
                    exact ⟨by rw [hf.out]; rfl, C7⟩
              have t4' : (k == 4) = false := beq_eq_false_iff_ne.2 h4
              by_cases hn0 : n = 0
              rotate_left
              · have tn : (n != 0) = true := bne_iff_ne.2 hn0
                rw [decide_eq_false hn0] at hz
                have hf : Hid (z = false) := Lib.hid (by rw [← hz.out] <;> (rw [if_neg h2, if_neg h4]; simp))
                clear hz
                go_wp2_with fail
                go_ret
                exact ⟨by rw [hf.out]; rfl, C7⟩
              have tn : (n != 0) = false := by rw [hn0]; rfl
              rw [decide_eq_true hn0] at hz
              clear hn0
              by_cases h8 : k = 8
              · have t8 : (k == 8) = true := by rw [h8]; rfl
                rw [if_pos h8, Bool.true_and] at hz
                clear h2 h4 h8
                by_cases hl0 : ll = 2
                · have tl : ((ll : Int) == 2) = true := by rw [hl0]; rfl
                  rw [decide_eq_true hl0] at hz
                  clear hl0
                  have hf : Hid (z = true) := Lib.hid (by rw [← hz.out] <;> (simp))
                  clear hz
                  go_wp2_with fail
                  go_ret
                  exact ⟨by rw [hf.out]; rfl, C7⟩
                · have tl : ((ll : Int) == 2) = false := beq_eq_false_iff_ne.2 (by omega)
                  rw [decide_eq_false hl0] at hz
                  clear hl0
                  have hf : Hid (z = false) := Lib.hid (by rw [← hz.out] <;> (simp))
                  clear hz
                  go_wp2_with fail
                  go_ret
                  exact ⟨by rw [hf.out]; rfl, C7⟩
              have t8 : (k == 8) = false := beq_eq_false_iff_ne.2 h8
              by_cases h9 : k = 9
              · have t9 : (k == 9) = true := by rw [h9]; rfl
                rw [if_neg h8, if_pos h9] at hz
                clear h2 h4 h8 h9
                have hf : Hid (z = true) := Lib.hid (by rw [← hz.out] <;> (rfl))
                clear hz
                go_wp2_with fail
                go_ret
                exact ⟨by rw [hf.out]; rfl, C7⟩
              have t9 : (k == 9) = false := beq_eq_false_iff_ne.2 h9
              rw [if_neg h8, if_neg h9, if_neg h2, if_neg h4, Bool.true_and] at hz
              clear h2 h4 h8 h9
              by_cases hl0 : ll = 0
              · have tl : ((ll : Int) == 0) = true := by rw [hl0]; rfl
                rw [decide_eq_true hl0] at hz
                clear hl0
                have hf : Hid (z = true) := Lib.hid (by rw [← hz.out] <;> (simp))
                clear hz
                go_wp2_with fail
                go_ret
                exact ⟨by rw [hf.out]; rfl, C7⟩
              · have tl : ((ll : Int) == 0) = false := beq_eq_false_iff_ne.2 (by omega)
                rw [decide_eq_false hl0] at hz
                clear hl0
                have hf : Hid (z = false) := Lib.hid (by rw [← hz.out] <;> (simp))
                clear hz
                go_wp2_with fail
                go_ret
                exact ⟨by rw [hf.out]; rfl, C7⟩

end Go.Proofs.YtilhnjecnhpmlaaDoor
namespace Go.Proofs.YtilhnjecnhpmlaaDoor
open Go.RowKit

/-- what the reference's valid answers, in every world behind this one whose blocks below B are as they were -/
def RVS (valid : ByteArray → Bool) (B : Nat) (w : World) : Prop := ∀ (s : ByteArray) (w' : World), s.size ≤ 1048576 → Below B w w' →
  Calls Tryd.prog 66 #[.string s] w' fun e w'' => e = .returned (.bool (valid s)) ∧ Below w'.heap.size w' w''
theorem RVS.st {valid : ByteArray → Bool} {B : Nat} {w w' : World} (h : RVS valid B w) (hb : Below B w w') : RVS valid B w' := fun s w2 hs h2 => h s w2 hs (hb.trans h2)
theorem RVS.more {valid : ByteArray → Bool} {B B' : Nat} {w : World} (h : RVS valid B w) (hB : B ≤ B') : RVS valid B' w := fun s w2 hs h2 => h s w2 hs (h2.mono hB)
theorem cntL_cons' {valid : ByteArray → Bool} {x : Dat} {l : List Dat} (p : Bool) (i dp : Nat) (left : Int) : cntL valid (x :: l) p i dp left = cntL valid l p (i + 1) dp (x.cnt valid (inner p i dp) left) := by rw [cntL]

set_option maxRecDepth 100000 in
set_option maxHeartbeats 8000000 in
theorem rcount_go (valid : ByteArray → Bool) (m : Nat) : ∀ (d : Dat), SizeOf.sizeOf d ≤ m → ∀ (v : Value) (D : Int) (dp : Nat) (left : Int) (w : World), D = (dp : Int) → RD w w.heap.size d v → 1 ≤ dp ∧ dp ≤ 201 → -1 ≤ left ∧ left ≤ 20000 → RVS valid w.heap.size w →
    Calls Tryd.prog 40 #[v, .int .i64 D, .int .i64 left] w fun e w' => e = .returned (.int .i64 (d.cnt valid dp left)) ∧ Below w.heap.size w w' := by
  induction m with
  | zero =>
    intro d hd
    exfalso
    cases d
    simp only [Dat.mk.sizeOf_spec] at hd
    omega
  | succ m ih =>
    intro d hd v D dp left w hD hR hdp hl hV
    subst hD
    obtain ⟨T, hT⟩ : ∃ T, Hid (d.cnt valid dp left = T) := ⟨_, rfl⟩
    rw [hT.out]
    have hR0 := hR
    obtain ⟨A1, c1, D1, d1, A2, c2, D2, d2, R, rc, L, lc, rfl, -, hb_, hlc, hds⟩ := hR.view
    have S0 := SB.new w [.int .i64 d.k, .int .i64 d.n, .bool d.re.s, .slice A1 d.re.a.length c1, .slice D1 d.re.b.length d1, .bool d.im.s, .slice A2 d.im.a.length c2, .slice D2 d.im.b.length d2, .string d.t, .slice R d.raw.length rc, .slice L d.l.length lc] 31
    have B0 := bal w (.cells #[.int .i64 d.k, .int .i64 d.n, .bool d.re.s, .slice A1 d.re.a.length c1, .slice D1 d.re.b.length d1, .bool d.im.s, .slice A2 d.im.a.length c2, .slice D2 d.im.b.length d2, .string d.t, .slice R d.raw.length rc, .slice L d.l.length lc] 31)
    have R0 := hR0.st B0
    have hsh := rdshape_any valid d _ (w.alloc (.cells #[.int .i64 d.k, .int .i64 d.n, .bool d.re.s, .slice A1 d.re.a.length c1, .slice D1 d.re.b.length d1, .bool d.im.s, .slice A2 d.im.a.length c2, .slice D2 d.im.b.length d2, .string d.t, .slice R d.raw.length rc, .slice L d.l.length lc] 31)) R0 (fun w' hb => hV d.t w' hb_.2.2 (B0.trans (hb.mono B0.size)))
    go_enter Tryd.func40, Tryd.ntmps40
    go_upto_region 1 with fail
    obtain ⟨W0, hW0⟩ : ∃ W0, W0 = w.alloc (.cells #[.int .i64 d.k, .int .i64 d.n, .bool d.re.s, .slice A1 d.re.a.length c1, .slice D1 d.re.b.length d1, .bool d.im.s, .slice A2 d.im.a.length c2, .slice D2 d.im.b.length d2, .string d.t, .slice R d.raw.length rc, .slice L d.l.length lc] 31) := ⟨_, rfl⟩
    rw [← hW0] at S0 B0 R0 hsh ⊢
    clear hW0 hR hR0 hds hb_
    by_cases hd2 : 200 < dp
    · have hTe : Hid (T = -1) := Lib.hid (by rw [← hT.out]; exact cnt_bad (.inl hd2))
      have t2 : decide (200 < (dp : Int)) = true := decide_eq_true (by omega)
      have t3 : 200 < (dp : Int) := by omega
      clear hT
      go_wp2_with fail
      go_ret
      exact ⟨by rw [hTe.out]; rfl, B0⟩
    have t2 : decide (200 < (dp : Int)) = false := decide_eq_false (by omega)
    have t3 : ¬ 200 < (dp : Int) := by omega
    by_cases h0 : left ≤ 0
    · have hTe : Hid (T = -1) := Lib.hid (by rw [← hT.out]; exact cnt_bad (.inr (.inl h0)))
      have t4 : decide (left ≤ 0) = true := decide_eq_true h0
      clear hT
      go_wp2_with fail
      go_ret
      exact ⟨by rw [hTe.out]; rfl, B0⟩
    have t4 : decide (left ≤ 0) = false := decide_eq_false h0
    have t4' : ¬ left ≤ 0 := h0
    have i0 := S0.cell 0
    have i1 := S0.cell 1
    have i2 := S0.cell 2
    have i3 := S0.cell 3
    have i4 := S0.cell 4
    have i5 := S0.cell 5
    have i6 := S0.cell 6
    have i7 := S0.cell 7
    have i8 := S0.cell 8
    have i9 := S0.cell 9
    have i10 := S0.cell 10
    go_wp2_with fail
    refine hsh.mono ?_; rintro e w1 ⟨rfl, B1⟩
    clear i0 i1 i2 i3 i4 i5 i6 i7 i8 i9 i10 hsh t4 t4'
    have S1 := S0.nx B1
    have B2 := bt B0 B1
    have R1 := R0.st B1
    cases hx : d.shape valid with
    | false =>
      have hTe : Hid (T = -1) := Lib.hid (by rw [← hT.out]; exact cnt_bad (.inr (.inr hx)))
      clear hT hx
      go_wp2_with fail
      go_ret
      exact ⟨by rw [hTe.out]; rfl, B2⟩
    | true =>
      have hT1 : Hid (cntL valid (d.l.drop 0) (decide (d.k = 8)) 0 dp (left - 1) = T) := Lib.hid (by rw [← hT.out]; exact (cnt_good (by omega) (by omega) hx).symm)
      have hlw : IntKind.i64.wrap (left - 1) = left - 1 := IntWalk.i64_in _ (by omega)
      clear hT hx S0 B0 R0 B1
      go_upto_region 5 with fail
      go_loopg [2, 7] d.l.length (fun gk s2 s7 wx => ∃ (i : Nat) (left2 : Int), s2 = .int .i64 left2 ∧ s7 = .int .i64 (i : Int) ∧ i ≤ d.l.length ∧ d.l.length - i = gk ∧ (-1 ≤ left2 ∧ left2 ≤ 20000) ∧ Hid (cntL valid (d.l.drop i) (decide (d.k = 8)) i dp left2 = T) ∧ Below w.heap.size w wx ∧
        SB wx w.heap.size [.int .i64 d.k, .int .i64 d.n, .bool d.re.s, .slice A1 d.re.a.length c1, .slice D1 d.re.b.length d1, .bool d.im.s, .slice A2 d.im.a.length c2, .slice D2 d.im.b.length d2, .string d.t, .slice R d.raw.length rc, .slice L d.l.length lc] ∧ RD wx wx.heap.size d (.agg #[.int .i64 d.k, .int .i64 d.n, .bool d.re.s, .slice A1 d.re.a.length c1, .slice D1 d.re.b.length d1, .bool d.im.s, .slice A2 d.im.a.length c2, .slice D2 d.im.b.length d2, .string d.t, .slice R d.raw.length rc, .slice L d.l.length lc]))
      case atStart => exact ⟨0, left - 1, rfl, rfl, Nat.zero_le _, rfl, by omega, hT1, B2, S1, R1⟩
      case round =>
        obtain ⟨i, left2, rfl, rfl, hil, hgk, hl2, hT2, B3, S3, R3⟩ := hrel
        clear hT1 B2 S1 R1 hlw hl h0
        have i0 := S3.cell 0
        have i10 := S3.cell 10
        by_cases hi : i < d.l.length
        · by_cases hneg : left2 < 0
          · have t5 : decide (0 ≤ left2) = false := decide_eq_false (by omega)
            have t6 : ¬ 0 ≤ left2 := by omega
            have hTe : Hid (left2 = T) := Lib.hid (by rw [← hT2.out, show left2 = -1 by omega]; exact (cntL_neg _ _ _ _ _).symm)
            clear hT2 R3
            generalize d.l.length = ll at *
            go_wp2_with fail
            go_ret
            exact ⟨by rw [← hTe.out]; rfl, B3⟩
          have t5 : decide (0 ≤ left2) = true := decide_eq_true (by omega)
          have t6 : 0 ≤ left2 := by omega
          obtain ⟨_, _, _, _, _, _, _, _, _, _, _, _, hvv, _, _, _, hds⟩ := R3.view
          obtain ⟨b, off, hL, hbg, hds⟩ := hds (by omega)
          have hLL : L = some ⟨b, off, none⟩ := by
            have := congrArg Array.toList (Value.agg.inj hvv)
            simp only [List.cons.injEq, Value.slice.injEq] at this
            rw [this.2.2.2.2.2.2.2.2.2.2.1.1]
            exact hL
          subst hLL
          clear hvv hL
          have hx := List.getElem?_eq_getElem hi
          have hdr : d.l.drop i = d.l[i] :: d.l.drop (i + 1) := List.drop_eq_getElem_cons hi
          replace hT2 := hT2.out
          rw [hdr, cntL_cons'] at hT2
          replace hT2 := Lib.hid hT2
          have hsz : SizeOf.sizeOf d.l[i] ≤ m := by have := Dat.lt_of_mem (d := d) (List.getElem_mem hi); omega
          generalize d.l[i] = x at *
          clear hdr
          obtain ⟨vx, Rx, hcx⟩ := hds.get hx
          obtain ⟨xs, rfl, hxl, hxo⟩ := Rx.agg
          match xs, hxl with
          | [x0, x1, x2, x3, x4, x5, x6, x7, x8, x9, x10], _ =>
          have hcx : ∀ (j : Nat) (u : Value), [x0, x1, x2, x3, x4, x5, x6, x7, x8, x9, x10][j]? = some u → wr.cell? ⟨b, off + i * 11 + j, none⟩ = some u := fun j u hj => by have := hcx _ rfl j u (by simpa using hj); simpa using this
          have k0 := hcx 0 _ rfl
          have k1 := hcx 1 _ rfl
          have k2 := hcx 2 _ rfl
          have k3 := hcx 3 _ rfl
          have k4 := hcx 4 _ rfl
          have k5 := hcx 5 _ rfl
          have k6 := hcx 6 _ rfl
          have k7 := hcx 7 _ rfl
          have k8 := hcx 8 _ rfl
          have k9 := hcx 9 _ rfl
          have k10 := hcx 10 _ rfl
          simp only [Nat.add_zero] at k0
          clear hcx hds hx
          have hwd : IntKind.i64.wrap ((dp : Int) + 1) = (dp : Int) + 1 := IntWalk.i64_in _ (by omega)
          have hwi : IntKind.i64.wrap ((i : Int) + 1) = (i : Int) + 1 := IntWalk.i64_in _ (by omega)
          obtain ⟨dn, hdn⟩ : ∃ dn : Nat, Hid (inner (decide (d.k = 8)) i dp = dn) := ⟨_, rfl⟩
          rw [hdn.out] at hT2
          have hdd : dn = dp ∨ dn = dp + 1 := by rw [← hdn.out]; unfold inner; split <;> simp
          have hcall := ih x hsz _ (dn : Int) dn left2 wr rfl Rx (by omega) hl2 ((hV.st B3).more B3.size)
          generalize hll : d.l.length = ll at *
          obtain ⟨ans, hans⟩ : ∃ ans, x.cnt valid dn left2 = ans := ⟨_, rfl⟩
          have hab : -1 ≤ ans ∧ ans ≤ 20000 := by rw [← hans]; rcases Dat.cnt_le valid x dn left2 with h | h <;> omega
          rw [hans] at hT2 hcall
          clear hans
          have fin : ∀ w4, Below wr.heap.size wr w4 → Below w.heap.size w w4 ∧ SB w4 w.heap.size _ ∧ RD w4 w4.heap.size d _ := fun w4 hb => ⟨bt B3 hb, S3.nx hb, R3.st hb⟩
          by_cases h8 : d.k = 8
          · have t8 : (d.k == 8) = true := by rw [h8]; rfl
            by_cases h1 : i = 1
            · have t1 : ((i : Int) == 1) = true := by rw [h1]; rfl
              have hdn1 : dn = dp := by rw [← hdn.out]; unfold inner; rw [decide_eq_true h8, if_pos ⟨rfl, h1⟩]
              rw [hdn1] at hcall
              clear hdn1 h8 h1 hdn B3 S3 R3
              go_wp2_with fail
              refine hcall.mono ?_; rintro e w4 ⟨rfl, B4⟩
              obtain ⟨B5, S5, R5⟩ := fin w4 B4
              clear fin hcall k0 k1 k2 k3 k4 k5 k6 k7 k8 k9 k10 i0 i10
              go_wp2_with fail
              go_roundg (ll - (i + 1))
              case measure => omega
              case rel => exact ⟨i + 1, ans, rfl, by go_num, by omega, rfl, hab, hT2, B5, S5, R5⟩
            · have t1 : ((i : Int) == 1) = false := beq_eq_false_iff_ne.2 (by omega)
              have hdn1 : (dn : Int) = (dp : Int) + 1 := by rw [← hdn.out]; unfold inner; rw [decide_eq_true h8, if_neg (fun h => h1 h.2)]; rfl
              rw [hdn1] at hcall
              clear hdn1 h8 h1 hdn B3 S3 R3
              go_wp2_with fail
              refine hcall.mono ?_; rintro e w4 ⟨rfl, B4⟩
              obtain ⟨B5, S5, R5⟩ := fin w4 B4
              clear fin hcall k0 k1 k2 k3 k4 k5 k6 k7 k8 k9 k10 i0 i10
              go_wp2_with fail
              go_roundg (ll - (i + 1))
              case measure => omega
              case rel => exact ⟨i + 1, ans, rfl, by go_num, by omega, rfl, hab, hT2, B5, S5, R5⟩
          · have t8 : (d.k == 8) = false := beq_eq_false_iff_ne.2 h8
            have hdn1 : (dn : Int) = (dp : Int) + 1 := by rw [← hdn.out]; unfold inner; rw [decide_eq_false h8, if_neg (fun h => by cases h.1)]; rfl
            rw [hdn1] at hcall
            clear hdn1 h8 hdn B3 S3 R3
            go_wp2_with fail
            refine hcall.mono ?_; rintro e w4 ⟨rfl, B4⟩
            obtain ⟨B5, S5, R5⟩ := fin w4 B4
            clear fin hcall k0 k1 k2 k3 k4 k5 k6 k7 k8 k9 k10 i0 i10
            go_wp2_with fail
            go_roundg (ll - (i + 1))
            case measure => omega
            case rel => exact ⟨i + 1, ans, rfl, by go_num, by omega, rfl, hab, hT2, B5, S5, R5⟩
        · obtain rfl : i = d.l.length := by omega
          have hTe : Hid (left2 = T) := Lib.hid (by rw [← hT2.out, List.drop_length, cntL])
          clear hT2 R3
          generalize d.l.length = ll at *
          go_wp2_with fail
          go_ret
          exact ⟨by rw [← hTe.out]; rfl, B3⟩

set_option maxRecDepth 100000 in
set_option maxHeartbeats 4000000 in
theorem rdsound_any (valid : ByteArray → Bool) (d : Dat) (v : Value) (w : World) (hR : RD w w.heap.size d v) (hV : RVS valid w.heap.size w) :
    Calls Tryd.prog 21 #[v] w fun e w' => e = .returned (.bool (d.sound valid)) ∧ Below w.heap.size w w' := by
  obtain ⟨T, hT⟩ : ∃ T, d.cnt valid 1 20000 = T := ⟨_, rfl⟩
  unfold Dat.sound
  rw [hT]
  have hR0 := hR
  obtain ⟨A1, c1, D1, d1, A2, c2, D2, d2, R, rc, L, lc, rfl, -⟩ := hR.view
  have S1 := SB.new w [.int .i64 d.k, .int .i64 d.n, .bool d.re.s, .slice A1 d.re.a.length c1, .slice D1 d.re.b.length d1, .bool d.im.s, .slice A2 d.im.a.length c2, .slice D2 d.im.b.length d2, .string d.t, .slice R d.raw.length rc, .slice L d.l.length lc] 31
  have B1 := bal w (.cells #[.int .i64 d.k, .int .i64 d.n, .bool d.re.s, .slice A1 d.re.a.length c1, .slice D1 d.re.b.length d1, .bool d.im.s, .slice A2 d.im.a.length c2, .slice D2 d.im.b.length d2, .string d.t, .slice R d.raw.length rc, .slice L d.l.length lc] 31)
  have R1 := hR0.st B1
  obtain ⟨W1, hW1⟩ : ∃ W1, W1 = w.alloc (.cells #[.int .i64 d.k, .int .i64 d.n, .bool d.re.s, .slice A1 d.re.a.length c1, .slice D1 d.re.b.length d1, .bool d.im.s, .slice A2 d.im.a.length c2, .slice D2 d.im.b.length d2, .string d.t, .slice R d.raw.length rc, .slice L d.l.length lc] 31) := ⟨_, rfl⟩
  go_enter Tryd.func21, Tryd.ntmps21
  go_upto_region 1 with fail
  rw [← hW1] at S1 B1 R1 ⊢
  clear hW1 hR hR0
  have i0 := S1.cell 0
  have i1 := S1.cell 1
  have i2 := S1.cell 2
  have i3 := S1.cell 3
  have i4 := S1.cell 4
  have i5 := S1.cell 5
  have i6 := S1.cell 6
  have i7 := S1.cell 7
  have i8 := S1.cell 8
  have i9 := S1.cell 9
  have i10 := S1.cell 10
  have hc := rcount_go valid (SizeOf.sizeOf d) d (Nat.le_refl _) _ 1 1 20000 W1 rfl R1 (by omega) (by omega) ((hV.st B1).more B1.size)
  rw [hT] at hc
  clear hT
  go_wp2_with fail
  refine hc.mono ?_; rintro e w2 ⟨rfl, B2⟩
  clear i0 i1 i2 i3 i4 i5 i6 i7 i8 i9 i10 hc
  have B3 := bt B1 B2
  go_wp2_with fail
  go_ret
  exact ⟨rfl, B3⟩
end Go.Proofs.YtilhnjecnhpmlaaDoor
namespace Go.Proofs.YtilhnjecnhpmlaaDoor
open Go.RowKit

/-- the same trees? -/
noncomputable def sameD (a b : Dat) : Bool := @decide (a = b) (Classical.propDecidable _)
theorem same_no {a b : Dat} (h : a ≠ b) : sameD a b = false := by unfold sameD; simp [h]
theorem same_yes {a b : Dat} (h : a = b) : sameD a b = true := by unfold sameD; simp [h]
theorem same_iff {a b : Dat} : sameD a b = true ↔ a = b := by unfold sameD; simp
theorem alike_iff {r i r' i' : Rw} : alikeB r i r' i' = true ↔ r = r' ∧ i = i' := by
  unfold alikeB
  rw [Bool.and_eq_true, fsB_iff, fsB_iff]
  constructor
  · rintro ⟨⟨h1, h2, h3⟩, h4, h5, h6⟩
    exact ⟨by cases r; cases r'; simp_all, by cases i; cases i'; simp_all⟩
  · rintro ⟨rfl, rfl⟩
    exact ⟨⟨rfl, rfl, rfl⟩, rfl, rfl, rfl⟩

set_option maxRecDepth 100000 in
set_option maxHeartbeats 8000000 in
theorem rsame_go (m : Nat) : ∀ (a b : Dat), SizeOf.sizeOf a ≤ m → ∀ (va vb : Value) (w : World), RD w w.heap.size a va → RD w w.heap.size b vb →
    Calls Tryd.prog 12 #[va, vb] w fun e w' => e = .returned (.bool (sameD a b)) ∧ Below w.heap.size w w' := by
  induction m with
  | zero =>
    intro a b hd
    exfalso
    cases a
    simp only [Dat.mk.sizeOf_spec] at hd
    omega
  | succ m ih =>
    intro a b hd va vb w hR hS
    obtain ⟨z, hz⟩ : ∃ z, Hid (sameD a b = z) := ⟨_, rfl⟩
    rw [hz.out]
    have hR0 := hR
    have hS0 := hS
    obtain ⟨A1, c1, D1, d1, A2, c2, D2, d2, R, rc, L, lc, rfl, ⟨ra1, ra2, ra3, ra4, ra5⟩, -, hlc, hds⟩ := hR.view
    obtain ⟨A1', c1', D1', d1', A2', c2', D2', d2', R', rc', L', lc', rfl, ⟨rb1, rb2, rb3, rb4, rb5⟩, -, hlc', hds'⟩ := hS.view
    have SA := SB.new w [.int .i64 a.k, .int .i64 a.n, .bool a.re.s, .slice A1 a.re.a.length c1, .slice D1 a.re.b.length d1, .bool a.im.s, .slice A2 a.im.a.length c2, .slice D2 a.im.b.length d2, .string a.t, .slice R a.raw.length rc, .slice L a.l.length lc] 31
    have B1 := bal w (.cells #[.int .i64 a.k, .int .i64 a.n, .bool a.re.s, .slice A1 a.re.a.length c1, .slice D1 a.re.b.length d1, .bool a.im.s, .slice A2 a.im.a.length c2, .slice D2 a.im.b.length d2, .string a.t, .slice R a.raw.length rc, .slice L a.l.length lc] 31)
    have SB_ := SB.new (w.alloc (.cells #[.int .i64 a.k, .int .i64 a.n, .bool a.re.s, .slice A1 a.re.a.length c1, .slice D1 a.re.b.length d1, .bool a.im.s, .slice A2 a.im.a.length c2, .slice D2 a.im.b.length d2, .string a.t, .slice R a.raw.length rc, .slice L a.l.length lc] 31)) [.int .i64 b.k, .int .i64 b.n, .bool b.re.s, .slice A1' b.re.a.length c1', .slice D1' b.re.b.length d1', .bool b.im.s, .slice A2' b.im.a.length c2', .slice D2' b.im.b.length d2', .string b.t, .slice R' b.raw.length rc', .slice L' b.l.length lc'] 31
    have B2 := bal (w.alloc (.cells #[.int .i64 a.k, .int .i64 a.n, .bool a.re.s, .slice A1 a.re.a.length c1, .slice D1 a.re.b.length d1, .bool a.im.s, .slice A2 a.im.a.length c2, .slice D2 a.im.b.length d2, .string a.t, .slice R a.raw.length rc, .slice L a.l.length lc] 31)) (.cells #[.int .i64 b.k, .int .i64 b.n, .bool b.re.s, .slice A1' b.re.a.length c1', .slice D1' b.re.b.length d1', .bool b.im.s, .slice A2' b.im.a.length c2', .slice D2' b.im.b.length d2', .string b.t, .slice R' b.raw.length rc', .slice L' b.l.length lc'] 31)
    have SA2 := SA.nx B2
    have B3 := bt B1 B2
    have RA := hR0.st B3
    have RB_ := hS0.st B3
    have qa : VN (w.alloc (.cells #[.int .i64 a.k, .int .i64 a.n, .bool a.re.s, .slice A1 a.re.a.length c1, .slice D1 a.re.b.length d1, .bool a.im.s, .slice A2 a.im.a.length c2, .slice D2 a.im.b.length d2, .string a.t, .slice R a.raw.length rc, .slice L a.l.length lc] 31) |>.alloc (.cells #[.int .i64 b.k, .int .i64 b.n, .bool b.re.s, .slice A1' b.re.a.length c1', .slice D1' b.re.b.length d1', .bool b.im.s, .slice A2' b.im.a.length c2', .slice D2' b.im.b.length d2', .string b.t, .slice R' b.raw.length rc', .slice L' b.l.length lc'] 31)) (w.alloc (.cells #[.int .i64 a.k, .int .i64 a.n, .bool a.re.s, .slice A1 a.re.a.length c1, .slice D1 a.re.b.length d1, .bool a.im.s, .slice A2 a.im.a.length c2, .slice D2 a.im.b.length d2, .string a.t, .slice R a.raw.length rc, .slice L a.l.length lc] 31) |>.alloc (.cells #[.int .i64 b.k, .int .i64 b.n, .bool b.re.s, .slice A1' b.re.a.length c1', .slice D1' b.re.b.length d1', .bool b.im.s, .slice A2' b.im.a.length c2', .slice D2' b.im.b.length d2', .string b.t, .slice R' b.raw.length rc', .slice L' b.l.length lc'] 31)).heap.size (.agg #[.bool a.re.s, .slice A1 a.re.a.length c1, .slice D1 a.re.b.length d1, .bool a.im.s, .slice A2 a.im.a.length c2, .slice D2 a.im.b.length d2]) a.re a.im := VN.st ⟨A1, c1, D1, d1, A2, c2, D2, d2, rfl, ra1, ra2, ra3, ra4⟩ B3
    have qb : VN (w.alloc (.cells #[.int .i64 a.k, .int .i64 a.n, .bool a.re.s, .slice A1 a.re.a.length c1, .slice D1 a.re.b.length d1, .bool a.im.s, .slice A2 a.im.a.length c2, .slice D2 a.im.b.length d2, .string a.t, .slice R a.raw.length rc, .slice L a.l.length lc] 31) |>.alloc (.cells #[.int .i64 b.k, .int .i64 b.n, .bool b.re.s, .slice A1' b.re.a.length c1', .slice D1' b.re.b.length d1', .bool b.im.s, .slice A2' b.im.a.length c2', .slice D2' b.im.b.length d2', .string b.t, .slice R' b.raw.length rc', .slice L' b.l.length lc'] 31)) (w.alloc (.cells #[.int .i64 a.k, .int .i64 a.n, .bool a.re.s, .slice A1 a.re.a.length c1, .slice D1 a.re.b.length d1, .bool a.im.s, .slice A2 a.im.a.length c2, .slice D2 a.im.b.length d2, .string a.t, .slice R a.raw.length rc, .slice L a.l.length lc] 31) |>.alloc (.cells #[.int .i64 b.k, .int .i64 b.n, .bool b.re.s, .slice A1' b.re.a.length c1', .slice D1' b.re.b.length d1', .bool b.im.s, .slice A2' b.im.a.length c2', .slice D2' b.im.b.length d2', .string b.t, .slice R' b.raw.length rc', .slice L' b.l.length lc'] 31)).heap.size (.agg #[.bool b.re.s, .slice A1' b.re.a.length c1', .slice D1' b.re.b.length d1', .bool b.im.s, .slice A2' b.im.a.length c2', .slice D2' b.im.b.length d2']) b.re b.im := VN.st ⟨A1', c1', D1', d1', A2', c2', D2', d2', rfl, rb1, rb2, rb3, rb4⟩ B3
    obtain ⟨W0, hW0⟩ : ∃ W0, W0 = (w.alloc (.cells #[.int .i64 a.k, .int .i64 a.n, .bool a.re.s, .slice A1 a.re.a.length c1, .slice D1 a.re.b.length d1, .bool a.im.s, .slice A2 a.im.a.length c2, .slice D2 a.im.b.length d2, .string a.t, .slice R a.raw.length rc, .slice L a.l.length lc] 31)).alloc (.cells #[.int .i64 b.k, .int .i64 b.n, .bool b.re.s, .slice A1' b.re.a.length c1', .slice D1' b.re.b.length d1', .bool b.im.s, .slice A2' b.im.a.length c2', .slice D2' b.im.b.length d2', .string b.t, .slice R' b.raw.length rc', .slice L' b.l.length lc'] 31) := ⟨_, rfl⟩
    have z1 : (w.alloc (.cells #[.int .i64 a.k, .int .i64 a.n, .bool a.re.s, .slice A1 a.re.a.length c1, .slice D1 a.re.b.length d1, .bool a.im.s, .slice A2 a.im.a.length c2, .slice D2 a.im.b.length d2, .string a.t, .slice R a.raw.length rc, .slice L a.l.length lc] 31)).heap.size = w.heap.size + 1 := by simp
    rw [z1] at SB_
    go_enter Tryd.func12, Tryd.ntmps12
    go_upto_region 1 with fail
    rw [← hW0] at SA2 SB_ B3 RA RB_ qa qb ⊢
    clear hW0 hR hS hR0 hS0 hds hds' SA B1 B2 z1 ra1 ra2 ra3 ra4 ra5 rb1 rb2 rb3 rb4 rb5
    have hla := (show a.raw.length ≤ 35184372088832 from by obtain ⟨_, _, _, _, _, _, _, _, _, _, _, _, _, hh, _⟩ := RA.view; exact hh.2.2.2.2.big)
    have hlb := (show b.raw.length ≤ 35184372088832 from by obtain ⟨_, _, _, _, _, _, _, _, _, _, _, _, _, hh, _⟩ := RB_.view; exact hh.2.2.2.2.big)
    have i0 := SA2.cell 0
    have i1 := SA2.cell 1
    have i2 := SA2.cell 2
    have i3 := SA2.cell 3
    have i4 := SA2.cell 4
    have i5 := SA2.cell 5
    have i6 := SA2.cell 6
    have i7 := SA2.cell 7
    have i8 := SA2.cell 8
    have i9 := SA2.cell 9
    have i10 := SA2.cell 10
    have j0 := SB_.cell 0
    have j1 := SB_.cell 1
    have j2 := SB_.cell 2
    have j3 := SB_.cell 3
    have j4 := SB_.cell 4
    have j5 := SB_.cell 5
    have j6 := SB_.cell 6
    have j7 := SB_.cell 7
    have j8 := SB_.cell 8
    have j9 := SB_.cell 9
    have j10 := SB_.cell 10
    by_cases hk : a.k = b.k
    rotate_left
    · have t1 : (a.k != b.k) = true := bne_iff_ne.2 hk
      have hf : Hid (z = false) := Lib.hid (by rw [← hz.out]; exact same_no (fun e => hk (by rw [e])))
      clear hz
      go_wp2_with fail
      go_ret
      exact ⟨by rw [hf.out]; rfl, B3⟩
    have t1 : (a.k != b.k) = false := by rw [hk]; simp
    replace hk := Lib.hid hk
    by_cases hn : a.n = b.n
    rotate_left
    · have t2 : (a.n != b.n) = true := bne_iff_ne.2 hn
      have hf : Hid (z = false) := Lib.hid (by rw [← hz.out]; exact same_no (fun e => hn (by rw [e])))
      clear hz
      go_wp2_with fail
      go_ret
      exact ⟨by rw [hf.out]; rfl, B3⟩
    have t2 : (a.n != b.n) = false := by rw [hn]; simp
    replace hn := Lib.hid hn
    by_cases ht : a.t = b.t
    rotate_left
    · have t3 : ¬ a.t.toList = b.t.toList := fun e => ht (by rw [Lib.toList_data, Lib.toList_data] at e; exact ByteArray.ext (Array.toList_inj.1 e))
      have hf : Hid (z = false) := Lib.hid (by rw [← hz.out]; exact same_no (fun e => ht (by rw [e])))
      clear hz
      go_wp2_with fail
      go_ret
      exact ⟨by rw [hf.out]; rfl, B3⟩
    have t3 : a.t.toList = b.t.toList := by rw [ht]
    replace ht := Lib.hid ht
    by_cases hr : a.raw.length = b.raw.length
    rotate_left
    · have t4 : ((a.raw.length : Int) != (b.raw.length : Int)) = true := bne_iff_ne.2 (by omega)
      have hf : Hid (z = false) := Lib.hid (by rw [← hz.out]; exact same_no (fun e => hr (by rw [e])))
      clear hz
      go_wp2_with fail
      go_ret
      exact ⟨by rw [hf.out]; rfl, B3⟩
    have t4 : ((a.raw.length : Int) != (b.raw.length : Int)) = false := by rw [hr]; simp
    by_cases hl : a.l.length = b.l.length
    rotate_left
    · have t5 : ((a.l.length : Int) != (b.l.length : Int)) = true := bne_iff_ne.2 (by omega)
      replace hr := Lib.hid hr
      have hf : Hid (z = false) := Lib.hid (by rw [← hz.out]; exact same_no (fun e => hl (by rw [e])))
      clear hz
      go_wp2_with fail
      go_ret
      exact ⟨by rw [hf.out]; rfl, B3⟩
    have t5 : ((a.l.length : Int) != (b.l.length : Int)) = false := by rw [hl]; simp
    replace hr := Lib.hid hr
    replace hl := Lib.hid hl
    go_wp2_with fail
    refine (alike_any _ _ a.re a.im b.re b.im _ qa qb).mono ?_; rintro e w3 ⟨rfl, B4⟩
    clear i0 i1 i2 i3 i4 i5 i6 i7 i8 i9 i10 j0 j1 j2 j3 j4 j5 j6 j7 j8 j9 j10 qa qb t1 t2 t3 t4 t5
    have SA3 := SA2.nx B4
    have SB3 := SB_.nx B4
    have RA3 := RA.st B4
    have RB3 := RB_.st B4
    have B5 := bt B3 B4
    clear SA2 SB_ RA RB_ B3 B4
    cases hx : alikeB a.re a.im b.re b.im with
    | false =>
      have hf : Hid (z = false) := Lib.hid (by rw [← hz.out]; exact same_no (fun e => by rw [e, alike_iff.2 ⟨rfl, rfl⟩] at hx; cases hx))
      clear hz
      go_wp2_with fail
      go_ret
      exact ⟨by rw [hf.out]; rfl, B5⟩
    | true =>
      obtain ⟨x1, x2⟩ := alike_iff.1 hx
      replace x1 := Lib.hid x1
      replace x2 := Lib.hid x2
      clear hx
      go_upto_region 4 with fail
      go_loopg [5] a.raw.length (fun gk s5 wx => ∃ i : Nat, s5 = .int .i64 (i : Int) ∧ i ≤ a.raw.length ∧ a.raw.length - i = gk ∧ Hid (a.raw.take i = b.raw.take i) ∧ Below w.heap.size w wx ∧ SB wx w.heap.size [.int .i64 a.k, .int .i64 a.n, .bool a.re.s, .slice A1 a.re.a.length c1, .slice D1 a.re.b.length d1, .bool a.im.s, .slice A2 a.im.a.length c2, .slice D2 a.im.b.length d2, .string a.t, .slice R a.raw.length rc, .slice L a.l.length lc] ∧ SB wx (w.heap.size + 1) [.int .i64 b.k, .int .i64 b.n, .bool b.re.s, .slice A1' b.re.a.length c1', .slice D1' b.re.b.length d1', .bool b.im.s, .slice A2' b.im.a.length c2', .slice D2' b.im.b.length d2', .string b.t, .slice R' b.raw.length rc', .slice L' b.l.length lc'] ∧
        RD wx wx.heap.size a (.agg #[.int .i64 a.k, .int .i64 a.n, .bool a.re.s, .slice A1 a.re.a.length c1, .slice D1 a.re.b.length d1, .bool a.im.s, .slice A2 a.im.a.length c2, .slice D2 a.im.b.length d2, .string a.t, .slice R a.raw.length rc, .slice L a.l.length lc]) ∧ RD wx wx.heap.size b (.agg #[.int .i64 b.k, .int .i64 b.n, .bool b.re.s, .slice A1' b.re.a.length c1', .slice D1' b.re.b.length d1', .bool b.im.s, .slice A2' b.im.a.length c2', .slice D2' b.im.b.length d2', .string b.t, .slice R' b.raw.length rc', .slice L' b.l.length lc']))
      case atStart => exact ⟨0, rfl, Nat.zero_le _, rfl, Lib.hid rfl, B5, SA3, SB3, RA3, RB3⟩
      case round =>
        obtain ⟨i, rfl, hil, hgk, hI, B6, SA4, SB4, RA4, RB4⟩ := hrel
        clear B5 SA3 SB3 RA3 RB3
        have i9 := SA4.cell 9
        have j9 := SB4.cell 9
        have j9' := SB4.cell 9
        by_cases hi : i < a.raw.length
        · have hi' : i < b.raw.length := by rw [← hr.out]; exact hi
          obtain ⟨_, _, _, _, _, _, _, _, _, _, _, _, hv1, hh1, _⟩ := RA4.view
          obtain ⟨_, _, _, _, _, _, _, _, _, _, _, _, hv2, hh2, _⟩ := RB4.view
          obtain ⟨bA, oA, hA, hbA, hcA⟩ := RL.at_ hh1.2.2.2.2 (by omega)
          obtain ⟨bB, oB, hB, hbB, hcB⟩ := RL.at_ hh2.2.2.2.2 (by omega)
          have e1 : R = some ⟨bA, oA, none⟩ := by
            have := congrArg Array.toList (Value.agg.inj hv1)
            simp only [List.cons.injEq, Value.slice.injEq] at this
            rw [this.2.2.2.2.2.2.2.2.2.1.1]; exact hA
          have e2 : R' = some ⟨bB, oB, none⟩ := by
            have := congrArg Array.toList (Value.agg.inj hv2)
            simp only [List.cons.injEq, Value.slice.injEq] at this
            rw [this.2.2.2.2.2.2.2.2.2.1.1]; exact hB
          subst e1 e2
          have k1 := hcA i _ (List.getElem?_eq_getElem hi)
          have k2 := hcB i _ (List.getElem?_eq_getElem hi')
          have hst : a.raw[i] = b.raw[i] → a.raw.take (i + 1) = b.raw.take (i + 1) := fun e => by
            rw [List.take_succ_eq_append_getElem hi, List.take_succ_eq_append_getElem hi', hI.out, e]
          have hno : ¬ a.raw[i] = b.raw[i] → a ≠ b := fun h e => h (by subst e; rfl)
          generalize a.raw[i] = x at *
          generalize b.raw[i] = y at *
          simp only [f8] at k1 k2
          have hwi : IntKind.i64.wrap ((i : Int) + 1) = (i : Int) + 1 := IntWalk.i64_in _ (by omega)
          clear hv1 hv2 hh1 hh2 hcA hcB hA hB hI
          have fin : ∀ q, Below w.heap.size w (wr.drewN q) ∧ SB (wr.drewN q) w.heap.size [.int .i64 a.k, .int .i64 a.n, .bool a.re.s, .slice A1 a.re.a.length c1, .slice D1 a.re.b.length d1, .bool a.im.s, .slice A2 a.im.a.length c2, .slice D2 a.im.b.length d2, .string a.t, .slice (some ⟨bA, oA, none⟩) a.raw.length rc, .slice L a.l.length lc] ∧ SB (wr.drewN q) (w.heap.size + 1) [.int .i64 b.k, .int .i64 b.n, .bool b.re.s, .slice A1' b.re.a.length c1', .slice D1' b.re.b.length d1', .bool b.im.s, .slice A2' b.im.a.length c2', .slice D2' b.im.b.length d2', .string b.t, .slice (some ⟨bB, oB, none⟩) b.raw.length rc', .slice L' b.l.length lc'] ∧
            RD (wr.drewN q) (wr.drewN q).heap.size a (.agg #[.int .i64 a.k, .int .i64 a.n, .bool a.re.s, .slice A1 a.re.a.length c1, .slice D1 a.re.b.length d1, .bool a.im.s, .slice A2 a.im.a.length c2, .slice D2 a.im.b.length d2, .string a.t, .slice (some ⟨bA, oA, none⟩) a.raw.length rc, .slice L a.l.length lc]) ∧ RD (wr.drewN q) (wr.drewN q).heap.size b (.agg #[.int .i64 b.k, .int .i64 b.n, .bool b.re.s, .slice A1' b.re.a.length c1', .slice D1' b.re.b.length d1', .bool b.im.s, .slice A2' b.im.a.length c2', .slice D2' b.im.b.length d2', .string b.t, .slice (some ⟨bB, oB, none⟩) b.raw.length rc', .slice L' b.l.length lc']) :=
            fun q => ⟨bdN B6 q, SA4.nx (bdN (Below.refl _ _) q), SB4.nx (bdN (Below.refl _ _) q), RA4.st (bdN (Below.refl _ _) q), RB4.st (bdN (Below.refl _ _) q)⟩
          generalize hll : a.raw.length = ll at *
          generalize hmm : b.raw.length = mm at *
          clear B6 SA4 SB4 RA4 RB4
          by_cases hxy : x = y
          · have t1 : ((x.toNat : Int) != (y.toNat : Int)) = false := by rw [hxy]; simp
            have HR := Lib.hid (hst hxy)
            clear hxy hst hno
            go_wp2_with fail
            go_quiet (fail)
            go_wp2_with fail
            go_roundg (ll - (i + 1))
            case measure => omega
            case rel =>
              obtain ⟨f1, f2, f3, f4, f5⟩ := fin _
              exact ⟨i + 1, by go_num, by omega, rfl, HR, f1, f2, f3, f4, f5⟩
          · have t1 : ((x.toNat : Int) != (y.toNat : Int)) = true := bne_iff_ne.2 (fun e => hxy (UInt8.toNat_inj.1 (by omega)))
            have hf : Hid (z = false) := Lib.hid (by rw [← hz.out]; exact same_no (hno hxy))
            clear hxy hst hno
            go_wp2_with fail
            go_quiet (fail)
            go_wp2_with fail
            go_ret
            exact ⟨by rw [hf.out]; rfl, (fin _).1⟩
        · have hrl := hr.out
          obtain rfl : i = a.raw.length := by omega
          have hraw : Hid (a.raw = b.raw) := Lib.hid (by
            have := hI.out
            rw [List.take_length, hrl, List.take_length] at this
            exact this)
          clear hI hil hgk i9 j9 j9' hi
          replace hrl := Lib.hid hrl
          generalize a.raw.length = ll at *
          have i9 := SA4.cell 9
          go_upto_region 8 with fail
          clear i9
          go_upto_region 9 with fail
          go_loopg [6] a.l.length (fun gk s6 wx => ∃ i : Nat, s6 = .int .i64 (i : Int) ∧ i ≤ a.l.length ∧ a.l.length - i = gk ∧ Hid (a.l.take i = b.l.take i) ∧ Below w.heap.size w wx ∧ SB wx w.heap.size [.int .i64 a.k, .int .i64 a.n, .bool a.re.s, .slice A1 a.re.a.length c1, .slice D1 a.re.b.length d1, .bool a.im.s, .slice A2 a.im.a.length c2, .slice D2 a.im.b.length d2, .string a.t, .slice R ll rc, .slice L a.l.length lc] ∧ SB wx (w.heap.size + 1) [.int .i64 b.k, .int .i64 b.n, .bool b.re.s, .slice A1' b.re.a.length c1', .slice D1' b.re.b.length d1', .bool b.im.s, .slice A2' b.im.a.length c2', .slice D2' b.im.b.length d2', .string b.t, .slice R' b.raw.length rc', .slice L' b.l.length lc'] ∧
            RD wx wx.heap.size a (.agg #[.int .i64 a.k, .int .i64 a.n, .bool a.re.s, .slice A1 a.re.a.length c1, .slice D1 a.re.b.length d1, .bool a.im.s, .slice A2 a.im.a.length c2, .slice D2 a.im.b.length d2, .string a.t, .slice R ll rc, .slice L a.l.length lc]) ∧ RD wx wx.heap.size b (.agg #[.int .i64 b.k, .int .i64 b.n, .bool b.re.s, .slice A1' b.re.a.length c1', .slice D1' b.re.b.length d1', .bool b.im.s, .slice A2' b.im.a.length c2', .slice D2' b.im.b.length d2', .string b.t, .slice R' b.raw.length rc', .slice L' b.l.length lc']))
          case atStart => exact ⟨0, rfl, Nat.zero_le _, rfl, Lib.hid rfl, B6, SA4, SB4, RA4, RB4⟩
          case round =>
            obtain ⟨i, rfl, hil, hgk, hI, B6, SA4, SB4, RA4, RB4⟩ := hrel
            have i10 := SA4.cell 10
            have j10 := SB4.cell 10
            by_cases hi : i < a.l.length
            · have hi' : i < b.l.length := by rw [← hl.out]; exact hi
              obtain ⟨_, _, _, _, _, _, _, _, _, _, _, _, hv1, _, _, _, hd1⟩ := RA4.view
              obtain ⟨_, _, _, _, _, _, _, _, _, _, _, _, hv2, _, _, _, hd2⟩ := RB4.view
              obtain ⟨bA, oA, hA, hbA, hd1⟩ := hd1 (by omega)
              obtain ⟨bB, oB, hB, hbB, hd2⟩ := hd2 (by omega)
              have e1 : L = some ⟨bA, oA, none⟩ := by
                have := congrArg Array.toList (Value.agg.inj hv1)
                simp only [List.cons.injEq, Value.slice.injEq] at this
                rw [this.2.2.2.2.2.2.2.2.2.2.1.1]; exact hA
              have e2 : L' = some ⟨bB, oB, none⟩ := by
                have := congrArg Array.toList (Value.agg.inj hv2)
                simp only [List.cons.injEq, Value.slice.injEq] at this
                rw [this.2.2.2.2.2.2.2.2.2.2.1.1]; exact hB
              subst e1 e2
              have hx1 := List.getElem?_eq_getElem hi
              have hy1 := List.getElem?_eq_getElem hi'
              have hsz : SizeOf.sizeOf a.l[i] ≤ m := by have := Dat.lt_of_mem (d := a) (List.getElem_mem hi); omega
              have hst : a.l[i] = b.l[i] → a.l.take (i + 1) = b.l.take (i + 1) := fun e => by
                rw [List.take_succ_eq_append_getElem hi, List.take_succ_eq_append_getElem hi', hI.out, e]
              have hno : ¬ a.l[i] = b.l[i] → a ≠ b := fun h e => h (by subst e; rfl)
              generalize a.l[i] = x at *
              generalize b.l[i] = y at *
              obtain ⟨vx, Rx, hcx⟩ := hd1.get hx1
              obtain ⟨vy, Ry, hcy⟩ := hd2.get hy1
              obtain ⟨xs, rfl, hxl, -⟩ := Rx.agg
              obtain ⟨ys, rfl, hyl, -⟩ := Ry.agg
              match xs, hxl, ys, hyl with
              | [x0, x1, x2, x3, x4, x5, x6, x7, x8, x9, x10], _, [y0, y1, y2, y3, y4, y5, y6, y7, y8, y9, y10], _ =>
              have hcx : ∀ (j : Nat) (u : Value), [x0, x1, x2, x3, x4, x5, x6, x7, x8, x9, x10][j]? = some u → wr.cell? ⟨bA, oA + i * 11 + j, none⟩ = some u := fun j u hj => by have := hcx _ rfl j u (by simpa using hj); simpa using this
              have hcy : ∀ (j : Nat) (u : Value), [y0, y1, y2, y3, y4, y5, y6, y7, y8, y9, y10][j]? = some u → wr.cell? ⟨bB, oB + i * 11 + j, none⟩ = some u := fun j u hj => by have := hcy _ rfl j u (by simpa using hj); simpa using this
              have kx0 := hcx 0 _ rfl; have kx1 := hcx 1 _ rfl; have kx2 := hcx 2 _ rfl; have kx3 := hcx 3 _ rfl; have kx4 := hcx 4 _ rfl; have kx5 := hcx 5 _ rfl; have kx6 := hcx 6 _ rfl; have kx7 := hcx 7 _ rfl; have kx8 := hcx 8 _ rfl; have kx9 := hcx 9 _ rfl; have kx10 := hcx 10 _ rfl
              have ky0 := hcy 0 _ rfl; have ky1 := hcy 1 _ rfl; have ky2 := hcy 2 _ rfl; have ky3 := hcy 3 _ rfl; have ky4 := hcy 4 _ rfl; have ky5 := hcy 5 _ rfl; have ky6 := hcy 6 _ rfl; have ky7 := hcy 7 _ rfl; have ky8 := hcy 8 _ rfl; have ky9 := hcy 9 _ rfl; have ky10 := hcy 10 _ rfl
              simp only [Nat.add_zero] at kx0 ky0
              have hwi : IntKind.i64.wrap ((i : Int) + 1) = (i : Int) + 1 := IntWalk.i64_in _ (by omega)
              clear hcx hcy hv1 hv2 hd1 hd2 hx1 hy1 hI hA hB j10 i10
              generalize hll : a.l.length = lm at *
              generalize hmm : b.l.length = mm at *
              obtain ⟨sm, hsm⟩ : ∃ sm, sameD x y = sm := ⟨_, rfl⟩
              have i10 := SA4.cell 10
              have j10 := SB4.cell 10
              have hcall := fun V U w' h1 h2 => ih x y hsz V U w' h1 h2
              rw [hsm] at hcall
              replace hsm := Lib.hid hsm
              go_upto_region 11 with fail
              have D := (Below.refl wr.heap.size wr).drew
              have i10' := (SA4.nx D).cell 10
              have j10' := (SB4.nx D).cell 10
              have kx0_ := (D.cell (p := ⟨bA, oA + i * 11, none⟩) hbA).trans kx0; have kx1_ := (D.cell (p := ⟨bA, oA + i * 11 + 1, none⟩) hbA).trans kx1; have kx2_ := (D.cell (p := ⟨bA, oA + i * 11 + 2, none⟩) hbA).trans kx2; have kx3_ := (D.cell (p := ⟨bA, oA + i * 11 + 3, none⟩) hbA).trans kx3; have kx4_ := (D.cell (p := ⟨bA, oA + i * 11 + 4, none⟩) hbA).trans kx4; have kx5_ := (D.cell (p := ⟨bA, oA + i * 11 + 5, none⟩) hbA).trans kx5; have kx6_ := (D.cell (p := ⟨bA, oA + i * 11 + 6, none⟩) hbA).trans kx6; have kx7_ := (D.cell (p := ⟨bA, oA + i * 11 + 7, none⟩) hbA).trans kx7; have kx8_ := (D.cell (p := ⟨bA, oA + i * 11 + 8, none⟩) hbA).trans kx8; have kx9_ := (D.cell (p := ⟨bA, oA + i * 11 + 9, none⟩) hbA).trans kx9; have kx10_ := (D.cell (p := ⟨bA, oA + i * 11 + 10, none⟩) hbA).trans kx10
              have ky0_ := (D.cell (p := ⟨bB, oB + i * 11, none⟩) hbB).trans ky0; have ky1_ := (D.cell (p := ⟨bB, oB + i * 11 + 1, none⟩) hbB).trans ky1; have ky2_ := (D.cell (p := ⟨bB, oB + i * 11 + 2, none⟩) hbB).trans ky2; have ky3_ := (D.cell (p := ⟨bB, oB + i * 11 + 3, none⟩) hbB).trans ky3; have ky4_ := (D.cell (p := ⟨bB, oB + i * 11 + 4, none⟩) hbB).trans ky4; have ky5_ := (D.cell (p := ⟨bB, oB + i * 11 + 5, none⟩) hbB).trans ky5; have ky6_ := (D.cell (p := ⟨bB, oB + i * 11 + 6, none⟩) hbB).trans ky6; have ky7_ := (D.cell (p := ⟨bB, oB + i * 11 + 7, none⟩) hbB).trans ky7; have ky8_ := (D.cell (p := ⟨bB, oB + i * 11 + 8, none⟩) hbB).trans ky8; have ky9_ := (D.cell (p := ⟨bB, oB + i * 11 + 9, none⟩) hbB).trans ky9; have ky10_ := (D.cell (p := ⟨bB, oB + i * 11 + 10, none⟩) hbB).trans ky10
              go_cut [88] (fun s88 wx => s88 = .bool (!sm) ∧ Below w.heap.size w wx ∧ SB wx w.heap.size [.int .i64 a.k, .int .i64 a.n, .bool a.re.s, .slice A1 a.re.a.length c1, .slice D1 a.re.b.length d1, .bool a.im.s, .slice A2 a.im.a.length c2, .slice D2 a.im.b.length d2, .string a.t, .slice R ll rc, .slice (some ⟨bA, oA, none⟩) lm lc] ∧ SB wx (w.heap.size + 1) [.int .i64 b.k, .int .i64 b.n, .bool b.re.s, .slice A1' b.re.a.length c1', .slice D1' b.re.b.length d1', .bool b.im.s, .slice A2' b.im.a.length c2', .slice D2' b.im.b.length d2', .string b.t, .slice R' b.raw.length rc', .slice (some ⟨bB, oB, none⟩) mm lc'] ∧ RD wx wx.heap.size a (.agg #[.int .i64 a.k, .int .i64 a.n, .bool a.re.s, .slice A1 a.re.a.length c1, .slice D1 a.re.b.length d1, .bool a.im.s, .slice A2 a.im.a.length c2, .slice D2 a.im.b.length d2, .string a.t, .slice R ll rc, .slice (some ⟨bA, oA, none⟩) lm lc]) ∧ RD wx wx.heap.size b (.agg #[.int .i64 b.k, .int .i64 b.n, .bool b.re.s, .slice A1' b.re.a.length c1', .slice D1' b.re.b.length d1', .bool b.im.s, .slice A2' b.im.a.length c2', .slice D2' b.im.b.length d2', .string b.t, .slice R' b.raw.length rc', .slice (some ⟨bB, oB, none⟩) mm lc']))
              case first =>
                go_region_with (first | (go_at_call 12; refine (hcall _ _ _ (Rx.st (by first | exact Below.refl _ _ | exact D)) (Ry.st (by first | exact Below.refl _ _ | exact D))).mono ?_; rintro e w4 ⟨rfl, B4⟩))
                all_goals
                  have BB : Below wr.heap.size wr w4 := D.trans B4
                  go_wp2_with fail
                  go_meet
                  exact ⟨rfl, bt B6 BB, SA4.nx BB, SB4.nx BB, RA4.st BB, RB4.st BB⟩
              case rest =>
                obtain ⟨rfl, B7, SA7, SB7, RA7, RB7⟩ := hcut
                generalize hw7 : wc = w7 at *
                clear hw7 hcall i10 j10 i10' j10' kx0 ky0 kx0_ ky0_ kx1 ky1 kx1_ ky1_ kx2 ky2 kx2_ ky2_ kx3 ky3 kx3_ ky3_ kx4 ky4 kx4_ ky4_ kx5 ky5 kx5_ ky5_ kx6 ky6 kx6_ ky6_ kx7 ky7 kx7_ ky7_ kx8 ky8 kx8_ ky8_ kx9 ky9 kx9_ ky9_ kx10 ky10 kx10_ ky10_ B6 SA4 SB4 RA4 RB4 D Rx Ry
                cases sm with
                | true =>
                  have HR := Lib.hid (hst (same_iff.1 hsm.out))
                  clear hst hno hsm
                  go_wp2_with fail
                  go_roundg (lm - (i + 1))
                  case measure => omega
                  case rel => exact ⟨i + 1, by go_num, by omega, rfl, HR, B7, SA7, SB7, RA7, RB7⟩
                | false =>
                  have hf : Hid (z = false) := Lib.hid (by rw [← hz.out]; exact same_no (hno (fun e => by have h1 := hsm.out; rw [same_yes e] at h1; cases h1)))
                  clear hst hno hsm
                  go_wp2_with fail
                  go_ret
                  exact ⟨by rw [hf.out]; rfl, B7⟩
            · have hll := hl.out
              obtain rfl : i = a.l.length := by omega
              have hlist : a.l = b.l := by
                have := hI.out
                rw [List.take_length, hll, List.take_length] at this
                exact this
              have hf : Hid (z = true) := Lib.hid (by rw [← hz.out]; exact same_yes (Dat.ext hk.out hn.out x1.out x2.out ht.out hraw.out hlist))
              clear hlist hll hI RA4 RB4
              generalize a.l.length = lm at *
              go_wp2_with fail
              go_ret
              exact ⟨by rw [hf.out]; rfl, B6⟩
end Go.Proofs.YtilhnjecnhpmlaaDoor
namespace Go.Proofs.YtilhnjecnhpmlaaDoor

/-- what goes through -/
def TR (x y z : Int) : Prop := (x ≤ 0 → y ≤ 0 → z ≤ 0) ∧ (x < 0 → y ≤ 0 → z < 0) ∧ (x ≤ 0 → y < 0 → z < 0)
theorem TR.lex {x1 y1 z1 x2 y2 z2 : Int} (h1 : TR x1 y1 z1) (h2 : x1 = 0 → y1 = 0 → z1 = 0 → TR x2 y2 z2) : TR (if x1 ≠ 0 then x1 else x2) (if y1 ≠ 0 then y1 else y2) (if z1 ≠ 0 then z1 else z2) := by
  obtain ⟨a1, a2, a3⟩ := h1
  by_cases hx : x1 = 0
  · by_cases hy : y1 = 0
    · by_cases hz : z1 = 0
      · simp only [hx, hy, hz, ne_eq, not_true_eq_false, if_false]
        exact h2 hx hy hz
      · rw [if_neg (by simpa using hx), if_neg (by simpa using hy), if_pos hz]
        refine ⟨fun _ _ => ?_, fun _ _ => ?_, fun _ _ => ?_⟩ <;> have := a1 (by omega) (by omega) <;> omega
    · rw [if_neg (by simpa using hx), if_pos hy]
      refine ⟨fun _ h => ?_, fun _ h => ?_, fun _ h => ?_⟩ <;> (have := a3 (by omega) (by omega); rw [if_pos (by omega)]; omega)
  · rw [if_pos hx]
    have hyy : (if y1 ≠ 0 then y1 else y2) ≤ 0 → y1 ≤ 0 := fun h => by
      by_cases hy : y1 = 0
      · omega
      · rw [if_pos hy] at h; exact h
    refine ⟨fun h h' => ?_, fun h h' => ?_, fun h h' => ?_⟩ <;> (have := a2 (by omega) (hyy (by omega)); rw [if_pos (by omega)]; omega)
theorem cmpZ_turn (a b : Int) : cmpZ b a = -cmpZ a b := by unfold cmpZ; split <;> split <;> omega
theorem cmpZ_zero {a b : Int} : cmpZ a b = 0 ↔ a = b := by unfold cmpZ; split <;> (try split) <;> omega
theorem cmpZ_tr (a b c : Int) : TR (cmpZ a b) (cmpZ b c) (cmpZ a c) := by
  unfold TR cmpZ
  refine ⟨?_, ?_, ?_⟩ <;> (split <;> split <;> (try split) <;> (try split) <;> (try split) <;> (try split) <;> intros <;> omega)
theorem cmpL_turn : ∀ (a b : List Nat), cmpL b a = -cmpL a b
  | [], [] => rfl
  | [], _ :: _ => rfl
  | _ :: _, [] => rfl
  | x :: xs, y :: ys => by
    unfold cmpL
    have ih := cmpL_turn xs ys
    split <;> split <;> omega
theorem cmpL_zero : ∀ {a b : List Nat}, cmpL a b = 0 → a = b
  | [], [], _ => rfl
  | [], _ :: _, h => by cases h
  | _ :: _, [], h => by cases h
  | x :: xs, y :: ys, h => by
    unfold cmpL at h
    split at h
    · cases h
    · split at h
      · cases h
      · rw [cmpL_zero h, show x = y by omega]
theorem cmpL_self : ∀ (a : List Nat), cmpL a a = 0
  | [] => rfl
  | x :: xs => by unfold cmpL; rw [if_neg (by omega), if_neg (by omega)]; exact cmpL_self xs
theorem cmpL_tr : ∀ (a b c : List Nat), TR (cmpL a b) (cmpL b c) (cmpL a c)
  | [], [], [] => by unfold TR cmpL; omega
  | [], [], _ :: _ => by unfold TR cmpL; omega
  | [], _ :: _, [] => by unfold TR cmpL; omega
  | [], _ :: _, _ :: _ => by unfold TR cmpL; omega
  | _ :: _, [], [] => by unfold TR cmpL; omega
  | _ :: _, [], _ :: _ => by unfold TR cmpL; omega
  | _ :: _, _ :: _, [] => by
    refine ⟨fun _ h => ?_, fun _ h => ?_, fun _ h => ?_⟩ <;> (simp only [cmpL] at h; omega)
  | x :: xs, y :: ys, z :: zs => by
    have e : ∀ (p q : Nat) (s t : List Nat), cmpL (p :: s) (q :: t) = if cmpZ p q ≠ 0 then cmpZ p q else cmpL s t := by
      intro p q s t
      have h : cmpL (p :: s) (q :: t) = if p < q then -1 else if q < p then 1 else cmpL s t := by rw [cmpL]
      rw [h]
      generalize cmpL s t = r
      unfold cmpZ
      by_cases h1 : p < q
      · simp [h1]
      · by_cases h2 : q < p
        · simp [h1, h2]
        · simp [h1, h2]
    rw [e, e, e]
    exact (cmpZ_tr x y z).lex fun _ _ _ => cmpL_tr xs ys zs
/-- every node is of a sound shape -/
inductive Dat.Good (v : ByteArray → Bool) : Dat → Prop where
  | mk {d : Dat} (h : d.shape v = true) (hl : ∀ x ∈ d.l, x.Good v) : d.Good v
theorem Dat.Good.shape {v : ByteArray → Bool} {d : Dat} (h : d.Good v) : d.shape v = true := by cases h; assumption
theorem Dat.Good.kids {v : ByteArray → Bool} {d : Dat} (h : d.Good v) : ∀ x ∈ d.l, x.Good v := by cases h; assumption
mutual
theorem Dat.good_of (v : ByteArray → Bool) : ∀ (d : Dat) (depth : Nat) (left : Int), 0 ≤ d.cnt v depth left → d.Good v
  | .mk k n re im t raw l => fun depth left h => by
    rw [Dat.cnt] at h
    by_cases hc : 200 < depth ∨ left ≤ 0 ∨ (Dat.mk k n re im t raw l).shape v = false
    · rw [if_pos hc] at h; omega
    · rw [if_neg hc] at h
      simp only [not_or] at hc
      exact .mk (by simpa using hc.2.2) (goodL_of v l _ _ _ _ (by omega) h)
theorem goodL_of (v : ByteArray → Bool) : ∀ (l : List Dat) (p : Bool) (i depth : Nat) (left : Int), 0 ≤ left → 0 ≤ cntL v l p i depth left → ∀ x ∈ l, x.Good v
  | [] => fun _ _ _ _ _ _ x hx => by cases hx
  | y :: ys => fun p i depth left hl h x hx => by
    rw [cntL] at h
    have hy : 0 ≤ y.cnt v (inner p i depth) left := by
      rcases Dat.cnt_le v y (inner p i depth) left with h1 | h1
      · rw [h1, cntL_neg] at h; omega
      · exact h1.1
    rcases List.mem_cons.1 hx with e | hx
    · rw [e]; exact Dat.good_of v y _ _ hy
    · exact goodL_of v ys p (i + 1) depth _ hy h x hx
end
theorem Dat.sound_good {v : ByteArray → Bool} {d : Dat} (h : d.sound v = true) : d.Good v := Dat.good_of v d 1 20000 (by unfold Dat.sound at h; simpa using h)
/-- numbers' order is one -/
structure NumOrd (num : Rw → Rw → Rw → Rw → Int) : Prop where
  turn : ∀ {r i r' i'}, nB r i = true → nB r' i' = true → num r' i' r i = -num r i r' i'
  zero : ∀ {r i r' i'}, nB r i = true → nB r' i' = true → (num r i r' i' = 0 ↔ r = r' ∧ i = i')
  tr : ∀ {r i r' i' r2 i2}, nB r i = true → nB r' i' = true → nB r2 i2 = true → TR (num r i r' i') (num r' i' r2 i2) (num r i r2 i2)
theorem Dat.Good.numOk {v : ByteArray → Bool} {d : Dat} (h : d.Good v) (hk : d.k = 3) : nB d.re d.im = true := by
  have h1 := h.shape
  unfold Dat.shape at h1
  rw [if_pos hk, Bool.and_eq_true] at h1
  exact h1.1
theorem lex_turn {x x' y y' : Int} (h1 : x' = -x) (h2 : x = 0 → y' = -y) : (if x' ≠ 0 then x' else y') = -(if x ≠ 0 then x else y) := by
  subst h1
  by_cases h : x = 0
  · simp [h, h2 h]
  · simp [h]
section
variable {v : ByteArray → Bool} {nm : Rw → Rw → Rw → Rw → Int}
theorem ordL_turn : ∀ {l l' : List Dat}, (∀ x ∈ l, ∀ y ∈ l', y.ord nm x = -x.ord nm y) → l.length = l'.length → ordL nm l' l = -ordL nm l l'
  | [], [], _, _ => rfl
  | x :: xs, y :: ys, h, hl => by
    rw [ordL, ordL]
    exact lex_turn (h x (by simp) y (by simp)) fun _ => ordL_turn (fun p hp q hq => h p (by simp [hp]) q (by simp [hq])) (by simpa using hl)
  | [], _ :: _, _, h => by simp at h
  | _ :: _, [], _, h => by simp at h
theorem ord_turn (hn : NumOrd nm) (a b : Dat) (ha : a.Good v) (hb : b.Good v) : b.ord nm a = -a.ord nm b := by
  rw [Dat.ord_eq nm b, Dat.ord_eq nm a]
  refine lex_turn (cmpZ_turn a.k b.k) fun hk => ?_
  have hk : b.k = a.k := (cmpZ_zero.1 hk).symm
  rw [hk]
  by_cases h3 : a.k = 3
  · rw [if_pos h3, if_pos h3]
    exact hn.turn (ha.numOk h3) (hb.numOk (hk.trans h3))
  · rw [if_neg h3, if_neg h3]
    by_cases ht : textK a.k = true
    · rw [if_pos ht, if_pos ht]; exact cmpL_turn _ _
    · rw [if_neg ht, if_neg ht]
      by_cases h7 : a.k = 7
      · rw [if_pos h7, if_pos h7]; exact cmpL_turn _ _
      · rw [if_neg h7, if_neg h7]
        by_cases h8 : a.k = 8 ∨ a.k = 9
        · rw [if_pos h8, if_pos h8]
          refine lex_turn (cmpZ_turn _ _) fun hl => ?_
          have hl := cmpZ_zero.1 hl
          exact ordL_turn (fun x hx y hy => ord_turn hn x y (ha.kids x hx) (hb.kids y hy)) (by omega)
        · rw [if_neg h8, if_neg h8]; exact cmpZ_turn _ _
termination_by SizeOf.sizeOf a
decreasing_by exact Dat.lt_of_mem hx
theorem ordL_tr : ∀ {l l' l2 : List Dat}, (∀ x ∈ l, ∀ y ∈ l', ∀ z ∈ l2, TR (x.ord nm y) (y.ord nm z) (x.ord nm z)) → l.length = l'.length → l'.length = l2.length → TR (ordL nm l l') (ordL nm l' l2) (ordL nm l l2)
  | [], [], [], _, _, _ => by unfold TR; simp [ordL]
  | x :: xs, y :: ys, z :: zs, h, hl, hl' => by
    rw [ordL, ordL, ordL]
    exact (h x (by simp) y (by simp) z (by simp)).lex fun _ _ _ => ordL_tr (fun p hp q hq r hr => h p (by simp [hp]) q (by simp [hq]) r (by simp [hr])) (by simpa using hl) (by simpa using hl')
  | [], _ :: _, _, _, h, _ => by simp at h
  | _ :: _, [], _, _, h, _ => by simp at h
  | _, [], _ :: _, _, _, h => by simp at h
  | _, _ :: _, [], _, _, h => by simp at h
theorem ord_tr (hn : NumOrd nm) (a b c : Dat) (ha : a.Good v) (hb : b.Good v) (hc : c.Good v) : TR (a.ord nm b) (b.ord nm c) (a.ord nm c) := by
  rw [Dat.ord_eq nm a b, Dat.ord_eq nm b c, Dat.ord_eq nm a c]
  refine (cmpZ_tr a.k b.k c.k).lex fun h1 h2 _ => ?_
  have h1 : b.k = a.k := (cmpZ_zero.1 h1).symm
  have h2 : c.k = a.k := ((cmpZ_zero.1 h2).symm).trans h1
  rw [h1]
  by_cases h3 : a.k = 3
  · rw [if_pos h3, if_pos h3, if_pos h3]
    exact hn.tr (ha.numOk h3) (hb.numOk (h1.trans h3)) (hc.numOk (h2.trans h3))
  · rw [if_neg h3, if_neg h3, if_neg h3]
    by_cases ht : textK a.k = true
    · rw [if_pos ht, if_pos ht, if_pos ht]; exact cmpL_tr _ _ _
    · rw [if_neg ht, if_neg ht, if_neg ht]
      by_cases h7 : a.k = 7
      · rw [if_pos h7, if_pos h7, if_pos h7]; exact cmpL_tr _ _ _
      · rw [if_neg h7, if_neg h7, if_neg h7]
        by_cases h8 : a.k = 8 ∨ a.k = 9
        · rw [if_pos h8, if_pos h8, if_pos h8]
          refine (cmpZ_tr _ _ _).lex fun l1 l2 _ => ?_
          have l1 := cmpZ_zero.1 l1
          have l2 := cmpZ_zero.1 l2
          exact ordL_tr (fun x hx y hy z hz => ord_tr hn x y z (ha.kids x hx) (hb.kids y hy) (hc.kids z hz)) (by omega) (by omega)
        · rw [if_neg h8, if_neg h8, if_neg h8]; exact cmpZ_tr _ _ _
termination_by SizeOf.sizeOf a
decreasing_by exact Dat.lt_of_mem hx
theorem noR_eq {r : Rw} (h : noR r = true) : r = ⟨false, [], []⟩ := by
  obtain ⟨s, a, b⟩ := r
  unfold noR at h
  simp only [Bool.and_eq_true, Bool.not_eq_true', decide_eq_true_eq, List.length_eq_zero_iff] at h
  rw [h.1, h.2.1, h.2.2]
theorem ordL_zero : ∀ {l l' : List Dat}, (∀ x ∈ l, ∀ y ∈ l', x.ord nm y = 0 → x = y) → l.length = l'.length → ordL nm l l' = 0 → l = l'
  | [], [], _, _, _ => rfl
  | x :: xs, y :: ys, h, hl, h0 => by
    rw [ordL] at h0
    by_cases e : x.ord nm y = 0
    · simp only [e, ne_eq, not_true_eq_false, if_false] at h0
      rw [h x (by simp) y (by simp) e, ordL_zero (fun p hp q hq => h p (by simp [hp]) q (by simp [hq])) (by simpa using hl) h0]
    · simp only [ne_eq, e, not_false_eq_true, if_true] at h0
  | [], _ :: _, _, h, _ => by simp at h
  | _ :: _, [], _, h, _ => by simp at h
/-- what a sound node's other parts are -/
theorem shape_parts {d : Dat} (h : d.shape v = true) : (d.k ≠ 3 → d.re = ⟨false, [], []⟩ ∧ d.im = ⟨false, [], []⟩) ∧ (textK d.k = false → d.t = ByteArray.empty) ∧ (d.k ≠ 7 → d.raw = []) ∧ (d.k ≠ 8 → d.k ≠ 9 → d.l = []) ∧ (d.k ≠ 2 → d.k ≠ 4 → d.n = 0) := by
  unfold Dat.shape at h
  simp only [Bool.and_eq_true] at h
  obtain ⟨h1, h2, h3, h4, h5⟩ := h
  refine ⟨fun hk => ?_, fun ht => ?_, fun hk => ?_, fun k8 k9 => ?_, fun k2 k4 => ?_⟩
  · rw [if_neg hk, Bool.and_eq_true] at h1
    exact ⟨noR_eq h1.1, noR_eq h1.2⟩
  · rw [ht] at h2
    simp only [Bool.false_or, decide_eq_true_eq] at h2
    exact ByteArray.ext (Array.eq_empty_of_size_eq_zero h2)
  · simp only [Bool.or_eq_true, decide_eq_true_eq] at h4
    exact List.eq_nil_of_length_eq_zero (h4.resolve_left hk)
  · rw [if_neg k8, if_neg k9] at h5
    split at h5
    · simp only [Bool.and_eq_true, decide_eq_true_eq] at h5; exact List.eq_nil_of_length_eq_zero h5.2
    · split at h5
      · simp only [Bool.and_eq_true, decide_eq_true_eq] at h5; exact List.eq_nil_of_length_eq_zero h5.2
      · simp only [Bool.and_eq_true, decide_eq_true_eq] at h5; exact List.eq_nil_of_length_eq_zero h5.2.2
  · rw [if_neg k2, if_neg k4] at h5
    split at h5
    · simp only [Bool.and_eq_true, decide_eq_true_eq] at h5; exact h5.1
    · split at h5
      · simp only [decide_eq_true_eq] at h5; exact h5
      · simp only [Bool.and_eq_true, decide_eq_true_eq] at h5; exact h5.2.1
theorem bytesN_inj {a b : ByteArray} (h : bytesN a = bytesN b) : a = b := by
  unfold bytesN at h
  have := List.map_inj_right (f := fun x : UInt8 => x.toNat) (fun x y e => UInt8.toNat_inj.1 e) |>.1 h
  exact ByteArray.ext (Array.toList_inj.1 this)
theorem ord_same (hn : NumOrd nm) (a b : Dat) (ha : a.Good v) (hb : b.Good v) (h : a.ord nm b = 0) : a = b := by
  rw [Dat.ord_eq nm a b] at h
  by_cases hk : cmpZ a.k b.k = 0
  · rw [if_neg (by simpa using hk)] at h
    have hk := cmpZ_zero.1 hk
    obtain ⟨a1, a2, a3, a4, a5⟩ := shape_parts ha.shape
    obtain ⟨b1, b2, b3, b4, b5⟩ := shape_parts hb.shape
    rw [← hk] at b1 b2 b3 b4 b5
    have T : a.k = 3 ∨ a.k = 7 ∨ a.k = 8 ∨ a.k = 9 → textK a.k = false := fun h => by unfold textK; simp; omega
    by_cases h3 : a.k = 3
    · rw [if_pos h3] at h
      obtain ⟨e1, e2⟩ := (hn.zero (ha.numOk h3) (hb.numOk (hk.symm.trans h3))).1 h
      exact Dat.ext hk ((a5 (by omega) (by omega)).trans (b5 (by omega) (by omega)).symm) e1 e2 ((a2 (T (.inl h3))).trans (b2 (T (.inl h3))).symm) ((a3 (by omega)).trans (b3 (by omega)).symm) ((a4 (by omega) (by omega)).trans (b4 (by omega) (by omega)).symm)
    · rw [if_neg h3] at h
      obtain ⟨ar, ai⟩ := a1 h3
      obtain ⟨br, bi⟩ := b1 h3
      by_cases ht : textK a.k = true
      · rw [if_pos ht] at h
        have hk2 : a.k = 5 ∨ a.k = 6 ∨ a.k = 11 := by unfold textK at ht; simpa using ht
        exact Dat.ext hk ((a5 (by omega) (by omega)).trans (b5 (by omega) (by omega)).symm) (ar.trans br.symm) (ai.trans bi.symm) (bytesN_inj (cmpL_zero h)) ((a3 (by omega)).trans (b3 (by omega)).symm) ((a4 (by omega) (by omega)).trans (b4 (by omega) (by omega)).symm)
      · rw [if_neg ht] at h
        have ht' : textK a.k = false := by simpa using ht
        have et := (a2 ht').trans (b2 ht').symm
        by_cases h7 : a.k = 7
        · rw [if_pos h7] at h
          have e := List.map_inj_right (f := fun x : UInt8 => x.toNat) (fun x y e => UInt8.toNat_inj.1 e) |>.1 (cmpL_zero h)
          exact Dat.ext hk ((a5 (by omega) (by omega)).trans (b5 (by omega) (by omega)).symm) (ar.trans br.symm) (ai.trans bi.symm) et e ((a4 (by omega) (by omega)).trans (b4 (by omega) (by omega)).symm)
        · rw [if_neg h7] at h
          have er := (a3 h7).trans (b3 h7).symm
          by_cases h8 : a.k = 8 ∨ a.k = 9
          · rw [if_pos h8] at h
            by_cases hl : cmpZ a.l.length b.l.length = 0
            · rw [if_neg (by simpa using hl)] at h
              have hl := cmpZ_zero.1 hl
              have el := ordL_zero (fun x hx y hy => ord_same hn x y (ha.kids x hx) (hb.kids y hy)) (by omega) h
              exact Dat.ext hk ((a5 (by omega) (by omega)).trans (b5 (by omega) (by omega)).symm) (ar.trans br.symm) (ai.trans bi.symm) et er el
            · rw [if_pos hl] at h; exact absurd h hl
          · rw [if_neg h8] at h
            exact Dat.ext hk (cmpZ_zero.1 h) (ar.trans br.symm) (ai.trans bi.symm) et er ((a4 (by omega) (by omega)).trans (b4 (by omega) (by omega)).symm)
  · rw [if_pos hk] at h; exact absurd h hk
termination_by SizeOf.sizeOf a
decreasing_by exact Dat.lt_of_mem hx
theorem ord_self (hn : NumOrd nm) (a : Dat) (ha : a.Good v) : a.ord nm a = 0 := by
  have h := ord_turn hn a a ha ha
  omega
end
end Go.Proofs.YtilhnjecnhpmlaaDoor
