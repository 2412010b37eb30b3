/- Walks: fraction of exact's reader. -/
import Derived.Test.YtkjfpaommbjgbaaRdB
import Derived.Test.YtkjfpaommbjgbaaGF
namespace Go.Proofs.Ytkjfpaommbjgbaa
open Go.RowKit

theorem digP_dig {r : Nat} (l : List UInt8) (e : Int) : (∃ n, (digP (isDr r) (rdr r) l e).1 = digs n ∧ (digs n).length ≤ 512) ∧ (digP (isDr r) (rdr r) l e).2.2.1.length ≤ l.length := by
  have hz : (digs 0).length ≤ 512 := by rw [digs_zero]; simp
  unfold digP
  split
  · exact ⟨⟨0, digs_zero.symm, hz⟩, Nat.le_refl _⟩
  · refine ⟨?_, ?_⟩
    · show ∃ n, (rdr r (l.takeWhile (isDr r))).1 = digs n ∧ _
      unfold rdr
      generalize l.takeWhile (isDr r) = t
      refine ⟨_, rfl, ?_⟩
      unfold readA readD fitA
      repeat' split
      all_goals first | exact hz | assumption
    · exact (List.dropWhile_suffix _).length_le
section
variable {isD : UInt8 → Bool} {rd : List UInt8 → List Nat × Int} {mk : Bool → List Nat → List Nat → Rw}
theorem frac_plain {s s1 : List UInt8} {w e1 : Int} {d : List Nat} {ok : Bool} (neg : Bool) (h : digP isD rd s w = (d, ok, s1, e1)) (hn : ¬ (ok = true ∧ s1.head? = some 47)) : fracP isD rd mk neg s w = (mk neg d [1], ok, s1, e1) := by
  unfold fracP
  rw [h]
  dsimp only
  rw [if_neg hn]
theorem frac_slash {s s1 s2 : List UInt8} {w e1 e2 : Int} {d d2 : List Nat} {ok2 : Bool} (neg : Bool) (h : digP isD rd s w = (d, true, s1, e1)) (hh : s1.head? = some 47) (h2 : digP isD rd s1.tail e1 = (d2, ok2, s2, e2)) :
    fracP isD rd mk neg s w = if d2 = [] then (mk neg d [1], ok2, s2, if ok2 = true ∧ e2 = 0 then 3 else e2) else (mk neg d d2, ok2, s2, e2) := by
  unfold fracP
  rw [h]
  dsimp only
  rw [if_pos ⟨rfl, hh⟩, h2]
end
/-- what fraction gives, and leaves in the reader -/
def RetFr (w : World) (g r : Nat) (x : Rw × Bool × List UInt8 × Int) (e : Ending) (w' : World) : Prop :=
  ∃ A c D d s', e = .returned (.tuple #[.agg #[.bool x.1.s, .slice A x.1.a.length c, .slice D x.1.b.length d], .bool x.2.1]) ∧ OW w' w.heap.size A c x.1.a ∧ OW w' w.heap.size D d x.1.b ∧ s'.data.toList = x.2.2.1 ∧ SB w' g [.string s', .int .i64 (r : Int), .int .i64 x.2.2.2] ∧ FarW g w w'


set_option maxRecDepth 100000 in
set_option maxHeartbeats 8000000 in
theorem fraction_any (g : Nat) (s : ByteArray) (r : Nat) (e : Int) (neg : Bool) (w : World) (hs : s.size ≤ 140737488351232) (hr1 : 2 ≤ r) (hr2 : r ≤ 36) (S : SB w g [.string s, .int .i64 (r : Int), .int .i64 e]) :
    Calls Try.prog 34 #[.pointer (some ⟨g, 0, none⟩), .bool neg] w (RetFr w g r (fracP (isDr r) (rdr r) mkr neg s.data.toList e)) := by
  have hgw := S.lt
  have B1 := bal w (.cells #[.bool false, .slice none 0 0, .slice none 0 0] 24)
  have X1 := SB.new w [.bool false, .slice none 0 0, .slice none 0 0] 24
  have S1 := S.nx B1
  have h1 := digits_any g s r e _ hs hr1 hr2 S1
  have hd := digP_dig (r := r) s.data.toList e
  obtain ⟨x1, hx⟩ : ∃ x1, digP (isDr r) (rdr r) s.data.toList e = x1 := ⟨_, rfl⟩
  rw [hx] at h1 hd
  obtain ⟨d1, ok1, s1, e1⟩ := x1
  obtain ⟨⟨n, hn, hnl⟩, hsz⟩ := hd
  rw [s_len] at hsz
  dsimp only at h1 hn hsz
  subst hn
  replace hsz := Nat.le_trans hsz hs
  have z1 : (w.alloc (.cells #[.bool false, .slice none 0 0, .slice none 0 0] 24)).heap.size = w.heap.size + 1 := by simp
  clear S hs
  go_enter Try.func34, Try.ntmps34
  go_wp2_with fail
  refine h1.mono ?_; rintro e' w3 ⟨A, c, s1', rfl, O, hs1, S3, F3⟩
  clear h1
  dsimp only at O hs1 S3
  have X3 := X1.farW F3 hgw
  rw [z1] at O
  replace F3 := (FarW.of B1 (Nat.le_of_lt hgw)).trans F3
  have k0 := S3.cell 0
  have kg := S3.frozen 0
  clear B1 X1 S1 z1
  cases ok1
  · skip
    have HE := Lib.hid (frac_plain (mk := mkr) neg hx (by simp))
    clear hx hsz
    go_wp2_with fail
    have hE := HE.out
    have hR := whole_any neg A c (digs n).length (digs n) w3 rfl O.rw (Nrm_digs n) (by omega)
    have hq : mkr neg (digs n) [1] = rwq ((sgn neg (val (digs n)) : Int) : Rat) := by unfold mkr; rw [whole_val]
    generalize ((sgn neg (val (digs n)) : Int) : Rat) = q at *
    rw [hq] at hE
    replace hE := Lib.hid hE
    clear hq
    go_wp2_with fail
    refine hR.mono ?_; rintro e' w8 ⟨A4, c4, A5, c5, rfl, O4, O5, B8⟩
    clear hR
    have X8 := X3.nx B8
    have Y8 := S3.nx B8
    have G8 := FarW.nx F3 B8 (by have := S3.lt; omega)
    have hb8 : w.heap.size < w3.heap.size := X3.lt
    clear B8
    have m0 := X8.cell 0
    have m1 := X8.cell 1
    have m2 := X8.cell 2
    have f0 := X8.frozen 0
    have f1 := X8.frozen 1
    have f2 := X8.frozen 2
    have X9 := X8.put3 (.bool (qn q)) (.slice A4 (digs (qt q)).length c4) (.slice A5 (digs (qd q)).length c5)
    have Y9 := Y8.wr3 (r := w.heap.size) (by omega) (.bool (qn q)) (.slice A4 (digs (qt q)).length c4) (.slice A5 (digs (qd q)).length c5)
    have G9 := ((G8.far (Nat.le_refl _) (Nat.le_of_lt hgw) 0 (.bool (qn q))).far (Nat.le_refl _) (Nat.le_of_lt hgw) 1 (.slice A4 (digs (qt q)).length c4)).far (Nat.le_refl _) (Nat.le_of_lt hgw) 2 (.slice A5 (digs (qd q)).length c5)
    have Oa := O4.put3 (b := w.heap.size) hb8 (.bool (qn q)) (.slice A4 (digs (qt q)).length c4) (.slice A5 (digs (qd q)).length c5)
    have Ob := O5.put3 (b := w.heap.size) hb8 (.bool (qn q)) (.slice A4 (digs (qt q)).length c4) (.slice A5 (digs (qd q)).length c5)
    have r0 := X9.cell 0
    have r1 := X9.cell 1
    have r2 := X9.cell 2
    unfold wr3 at X9 Y9 Oa Ob r0 r1 r2
    go_wp2_with fail
    refine bodyPost_ret (v := .tuple #[.agg #[.bool (qn q), .slice A4 (digs (qt q)).length c4, .slice A5 (digs (qd q)).length c5], .bool false]) (by simp [results, r0, r1, r2, go_sem]) rfl ?_
    rw [hE.out]
    exact ⟨A4, c4, A5, c5, _, rfl, Oa.base_le (by omega), Ob.base_le (by omega), hs1, Y9, G9⟩
  · have hp := fun w => hasp_any s1' 47 w
    rw [hs1] at hp
    by_cases hh : s1.head? = some 47
    · skip
      rw [decide_eq_true hh] at hp
      have hl := s_len s1'
      have hsp : 1 ≤ s1'.size := by rw [← hl, hs1]; cases hs : s1 with | nil => rw [hs] at hh; cases hh | cons a t => simp
      have hsi : (1 : Int) ≤ (s1'.size : Int) := by omega
      have hdr : (s1'.extract 1 s1'.size).data.toList = s1.tail := by rw [ext_drop, hs1, List.drop_one]
      have hs2 : (s1'.extract 1 s1'.size).size ≤ 140737488351232 := by rw [ByteArray.size_extract]; have := hsz; rw [← hs1, hl] at this; omega
      clear hl hsz
      have S4 := S3.set 0 (.string (s1'.extract 1 s1'.size))
      have F4 := F3.set 0 (.string (s1'.extract 1 s1'.size))
      have FS := (FarW.refl g w3).set 0 (.string (s1'.extract 1 s1'.size))
      have X4 := X3.farW FS hgw
      have O4 := O.farW FS (by omega)
      clear FS
      obtain ⟨w4, hw4⟩ : ∃ w4, w4 = w3.setCell ⟨g, 0, none⟩ (.string (s1'.extract 1 s1'.size)) := ⟨_, rfl⟩
      rw [← hw4] at S4 F4 X4 O4
      have h2 := digits_any g (s1'.extract 1 s1'.size) r e1 w4 hs2 hr1 hr2 S4
      rw [hdr] at h2
      have hd2 := (digP_dig (r := r) s1.tail e1).1
      obtain ⟨x2, hx2⟩ : ∃ x2, digP (isDr r) (rdr r) s1.tail e1 = x2 := ⟨_, rfl⟩
      rw [hx2] at h2 hd2
      obtain ⟨d2, ok2, s2, e2⟩ := x2
      obtain ⟨n2, hn2, hn2l⟩ := hd2
      dsimp only at h2 hn2
      subst hn2
      have HE := Lib.hid (frac_slash (mk := mkr) neg hx hh hx2)
      clear hx hx2 hdr hh hs1 hs2
      go_wp2_with fail
      refine (hp _).mono ?_; rintro e' w5 ⟨rfl, rfl⟩
      clear hp
      go_wp2_with fail
      rw [← hw4]
      refine h2.mono ?_; rintro e' w5 ⟨A2, c2, s2', rfl, O2, hs2, S5, F5⟩
      clear h2
      dsimp only at O2 hs2 S5
      have X5 := X4.farW F5 hgw
      have O := O4.farW F5 (by omega)
      have O2 := O2.base_le (show w.heap.size + 1 ≤ w4.heap.size from X4.lt)
      have F6 := F4.trans F5
      clear O4 F5 F4 S4 X4 hw4 S3 F3 X3
      by_cases hd2 : digs n2 = []
      · have hl0 : (digs n2).length = 0 := by rw [hd2]; rfl
        rw [hl0]
        clear hl0 O2
        have k2 := S5.cell 2
        have kf := S5.frozen 2
        cases ok2
        · go_wp2_with fail
          have hE := HE.out
          rw [if_pos hd2, if_neg (by simp)] at hE
          have hR := whole_any neg A c (digs n).length (digs n) w5 rfl O.rw (Nrm_digs n) (by omega)
          have hq : mkr neg (digs n) [1] = rwq ((sgn neg (val (digs n)) : Int) : Rat) := by unfold mkr; rw [whole_val]
          generalize ((sgn neg (val (digs n)) : Int) : Rat) = q at *
          rw [hq] at hE
          replace hE := Lib.hid hE
          clear hq
          go_wp2_with fail
          refine hR.mono ?_; rintro e' w8 ⟨A4, c4, A5, c5, rfl, O4, O5, B8⟩
          clear hR
          have X8 := X5.nx B8
          have Y8 := S5.nx B8
          have G8 := FarW.nx F6 B8 (by have := S5.lt; omega)
          have hb8 : w.heap.size < w5.heap.size := X5.lt
          clear B8
          have m0 := X8.cell 0
          have m1 := X8.cell 1
          have m2 := X8.cell 2
          have f0 := X8.frozen 0
          have f1 := X8.frozen 1
          have f2 := X8.frozen 2
          have X9 := X8.put3 (.bool (qn q)) (.slice A4 (digs (qt q)).length c4) (.slice A5 (digs (qd q)).length c5)
          have Y9 := Y8.wr3 (r := w.heap.size) (by omega) (.bool (qn q)) (.slice A4 (digs (qt q)).length c4) (.slice A5 (digs (qd q)).length c5)
          have G9 := ((G8.far (Nat.le_refl _) (Nat.le_of_lt hgw) 0 (.bool (qn q))).far (Nat.le_refl _) (Nat.le_of_lt hgw) 1 (.slice A4 (digs (qt q)).length c4)).far (Nat.le_refl _) (Nat.le_of_lt hgw) 2 (.slice A5 (digs (qd q)).length c5)
          have Oa := O4.put3 (b := w.heap.size) hb8 (.bool (qn q)) (.slice A4 (digs (qt q)).length c4) (.slice A5 (digs (qd q)).length c5)
          have Ob := O5.put3 (b := w.heap.size) hb8 (.bool (qn q)) (.slice A4 (digs (qt q)).length c4) (.slice A5 (digs (qd q)).length c5)
          have r0 := X9.cell 0
          have r1 := X9.cell 1
          have r2 := X9.cell 2
          unfold wr3 at X9 Y9 Oa Ob r0 r1 r2
          go_wp2_with fail
          refine bodyPost_ret (v := .tuple #[.agg #[.bool (qn q), .slice A4 (digs (qt q)).length c4, .slice A5 (digs (qd q)).length c5], .bool false]) (by simp [results, r0, r1, r2, go_sem]) rfl ?_
          rw [hE.out]
          exact ⟨A4, c4, A5, c5, _, rfl, Oa.base_le (by omega), Ob.base_le (by omega), hs2, Y9, G9⟩
        · by_cases he2 : e2 = 0
          · subst he2
            have S6 := S5.set 2 (.int .i64 3)
            have F7 := F6.set 2 (.int .i64 3)
            have FS := (FarW.refl g w5).set 2 (.int .i64 3)
            have X6 := X5.farW FS hgw
            have O6 := O.farW FS (by omega)
            clear FS k2 kf
            have k2 := S5.cell 2
            have kf := S5.frozen 2
            obtain ⟨w6, hw6⟩ : ∃ w6, w6 = w5.setCell ⟨g, 2, none⟩ (.int .i64 3) := ⟨_, rfl⟩
            rw [← hw6] at S6 F7 X6 O6
            clear O F6 X5 S5
            have hE := HE.out
            rw [if_pos hd2, if_pos ⟨rfl, rfl⟩] at hE
            have hR := whole_any neg A c (digs n).length (digs n) w6 rfl O6.rw (Nrm_digs n) (by omega)
            have hq : mkr neg (digs n) [1] = rwq ((sgn neg (val (digs n)) : Int) : Rat) := by unfold mkr; rw [whole_val]
            generalize ((sgn neg (val (digs n)) : Int) : Rat) = q at *
            rw [hq] at hE
            replace hE := Lib.hid hE
            clear hq
            go_wp2_with fail
            rw [← hw6]
            clear hw6 k2 kf
            refine hR.mono ?_; rintro e' w8 ⟨A4, c4, A5, c5, rfl, O4, O5, B8⟩
            clear hR
            have X8 := X6.nx B8
            have Y8 := S6.nx B8
            have G8 := FarW.nx F7 B8 (by have := S6.lt; omega)
            have hb8 : w.heap.size < w6.heap.size := X6.lt
            clear B8
            have m0 := X8.cell 0
            have m1 := X8.cell 1
            have m2 := X8.cell 2
            have f0 := X8.frozen 0
            have f1 := X8.frozen 1
            have f2 := X8.frozen 2
            have X9 := X8.put3 (.bool (qn q)) (.slice A4 (digs (qt q)).length c4) (.slice A5 (digs (qd q)).length c5)
            have Y9 := Y8.wr3 (r := w.heap.size) (by omega) (.bool (qn q)) (.slice A4 (digs (qt q)).length c4) (.slice A5 (digs (qd q)).length c5)
            have G9 := ((G8.far (Nat.le_refl _) (Nat.le_of_lt hgw) 0 (.bool (qn q))).far (Nat.le_refl _) (Nat.le_of_lt hgw) 1 (.slice A4 (digs (qt q)).length c4)).far (Nat.le_refl _) (Nat.le_of_lt hgw) 2 (.slice A5 (digs (qd q)).length c5)
            have Oa := O4.put3 (b := w.heap.size) hb8 (.bool (qn q)) (.slice A4 (digs (qt q)).length c4) (.slice A5 (digs (qd q)).length c5)
            have Ob := O5.put3 (b := w.heap.size) hb8 (.bool (qn q)) (.slice A4 (digs (qt q)).length c4) (.slice A5 (digs (qd q)).length c5)
            have r0 := X9.cell 0
            have r1 := X9.cell 1
            have r2 := X9.cell 2
            unfold wr3 at X9 Y9 Oa Ob r0 r1 r2
            go_wp2_with fail
            refine bodyPost_ret (v := .tuple #[.agg #[.bool (qn q), .slice A4 (digs (qt q)).length c4, .slice A5 (digs (qd q)).length c5], .bool true]) (by simp [results, r0, r1, r2, go_sem]) rfl ?_
            rw [hE.out]
            exact ⟨A4, c4, A5, c5, _, rfl, Oa.base_le (by omega), Ob.base_le (by omega), hs2, Y9, G9⟩
          · have te : (e2 == 0) = false := beq_eq_false_iff_ne.2 he2
            go_wp2_with fail
            have hE := HE.out
            rw [if_pos hd2, if_neg (by simpa using he2)] at hE
            have hR := whole_any neg A c (digs n).length (digs n) w5 rfl O.rw (Nrm_digs n) (by omega)
            have hq : mkr neg (digs n) [1] = rwq ((sgn neg (val (digs n)) : Int) : Rat) := by unfold mkr; rw [whole_val]
            generalize ((sgn neg (val (digs n)) : Int) : Rat) = q at *
            rw [hq] at hE
            replace hE := Lib.hid hE
            clear hq
            go_wp2_with fail
            refine hR.mono ?_; rintro e' w8 ⟨A4, c4, A5, c5, rfl, O4, O5, B8⟩
            clear hR
            have X8 := X5.nx B8
            have Y8 := S5.nx B8
            have G8 := FarW.nx F6 B8 (by have := S5.lt; omega)
            have hb8 : w.heap.size < w5.heap.size := X5.lt
            clear B8
            have m0 := X8.cell 0
            have m1 := X8.cell 1
            have m2 := X8.cell 2
            have f0 := X8.frozen 0
            have f1 := X8.frozen 1
            have f2 := X8.frozen 2
            have X9 := X8.put3 (.bool (qn q)) (.slice A4 (digs (qt q)).length c4) (.slice A5 (digs (qd q)).length c5)
            have Y9 := Y8.wr3 (r := w.heap.size) (by omega) (.bool (qn q)) (.slice A4 (digs (qt q)).length c4) (.slice A5 (digs (qd q)).length c5)
            have G9 := ((G8.far (Nat.le_refl _) (Nat.le_of_lt hgw) 0 (.bool (qn q))).far (Nat.le_refl _) (Nat.le_of_lt hgw) 1 (.slice A4 (digs (qt q)).length c4)).far (Nat.le_refl _) (Nat.le_of_lt hgw) 2 (.slice A5 (digs (qd q)).length c5)
            have Oa := O4.put3 (b := w.heap.size) hb8 (.bool (qn q)) (.slice A4 (digs (qt q)).length c4) (.slice A5 (digs (qd q)).length c5)
            have Ob := O5.put3 (b := w.heap.size) hb8 (.bool (qn q)) (.slice A4 (digs (qt q)).length c4) (.slice A5 (digs (qd q)).length c5)
            have r0 := X9.cell 0
            have r1 := X9.cell 1
            have r2 := X9.cell 2
            unfold wr3 at X9 Y9 Oa Ob r0 r1 r2
            go_wp2_with fail
            refine bodyPost_ret (v := .tuple #[.agg #[.bool (qn q), .slice A4 (digs (qt q)).length c4, .slice A5 (digs (qd q)).length c5], .bool true]) (by simp [results, r0, r1, r2, go_sem]) rfl ?_
            rw [hE.out]
            exact ⟨A4, c4, A5, c5, _, rfl, Oa.base_le (by omega), Ob.base_le (by omega), hs2, Y9, G9⟩
      · have hlp : ¬ (digs n2).length = 0 := fun h => hd2 (List.eq_nil_of_length_eq_zero h)
        have tl : (((digs n2).length : Int) == 0) = false := beq_eq_false_iff_ne.2 (by omega)
        go_wp2_with fail
        have hE := HE.out
        rw [if_neg hd2] at hE
        have hR := rat_any neg A A2 c c2 (digs n).length (digs n2).length (digs n) (digs n2) w5 rfl rfl O.rw O2.rw (Nrm_digs n) (Nrm_digs n2) (by rw [val_digs]; rintro rfl; exact hd2 digs_zero) (by omega) (by omega)
        have hq : mkr neg (digs n) (digs n2) = rwq (ratN neg (val (digs n)) (val (digs n2))) := rfl
        generalize ratN neg (val (digs n)) (val (digs n2)) = q at *
        rw [hq] at hE
        replace hE := Lib.hid hE
        clear hq
        go_wp2_with fail
        refine hR.mono ?_; rintro e' w8 ⟨A4, c4, A5, c5, rfl, O4, O5, B8⟩
        clear hR
        have X8 := X5.nx B8
        have Y8 := S5.nx B8
        have G8 := FarW.nx F6 B8 (by have := S5.lt; omega)
        have hb8 : w.heap.size < w5.heap.size := X5.lt
        clear B8
        have m0 := X8.cell 0
        have m1 := X8.cell 1
        have m2 := X8.cell 2
        have f0 := X8.frozen 0
        have f1 := X8.frozen 1
        have f2 := X8.frozen 2
        have X9 := X8.put3 (.bool (qn q)) (.slice A4 (digs (qt q)).length c4) (.slice A5 (digs (qd q)).length c5)
        have Y9 := Y8.wr3 (r := w.heap.size) (by omega) (.bool (qn q)) (.slice A4 (digs (qt q)).length c4) (.slice A5 (digs (qd q)).length c5)
        have G9 := ((G8.far (Nat.le_refl _) (Nat.le_of_lt hgw) 0 (.bool (qn q))).far (Nat.le_refl _) (Nat.le_of_lt hgw) 1 (.slice A4 (digs (qt q)).length c4)).far (Nat.le_refl _) (Nat.le_of_lt hgw) 2 (.slice A5 (digs (qd q)).length c5)
        have Oa := O4.put3 (b := w.heap.size) hb8 (.bool (qn q)) (.slice A4 (digs (qt q)).length c4) (.slice A5 (digs (qd q)).length c5)
        have Ob := O5.put3 (b := w.heap.size) hb8 (.bool (qn q)) (.slice A4 (digs (qt q)).length c4) (.slice A5 (digs (qd q)).length c5)
        have r0 := X9.cell 0
        have r1 := X9.cell 1
        have r2 := X9.cell 2
        unfold wr3 at X9 Y9 Oa Ob r0 r1 r2
        go_wp2_with fail
        refine bodyPost_ret (v := .tuple #[.agg #[.bool (qn q), .slice A4 (digs (qt q)).length c4, .slice A5 (digs (qd q)).length c5], .bool ok2]) (by simp [results, r0, r1, r2, go_sem]) rfl ?_
        rw [hE.out]
        exact ⟨A4, c4, A5, c5, _, rfl, Oa.base_le (by omega), Ob.base_le (by omega), hs2, Y9, G9⟩
    · skip
      have HE := Lib.hid (frac_plain (mk := mkr) neg hx (fun h => hh h.2))
      clear hx hsz
      rw [decide_eq_false hh] at hp
      go_wp2_with fail
      refine (hp _).mono ?_; rintro e' w4 ⟨rfl, rfl⟩
      clear hp
      go_wp2_with fail
      have hE := HE.out
      have hR := whole_any neg A c (digs n).length (digs n) w3 rfl O.rw (Nrm_digs n) (by omega)
      have hq : mkr neg (digs n) [1] = rwq ((sgn neg (val (digs n)) : Int) : Rat) := by unfold mkr; rw [whole_val]
      generalize ((sgn neg (val (digs n)) : Int) : Rat) = q at *
      rw [hq] at hE
      replace hE := Lib.hid hE
      clear hq
      go_wp2_with fail
      refine hR.mono ?_; rintro e' w8 ⟨A4, c4, A5, c5, rfl, O4, O5, B8⟩
      clear hR
      have X8 := X3.nx B8
      have Y8 := S3.nx B8
      have G8 := FarW.nx F3 B8 (by have := S3.lt; omega)
      have hb8 : w.heap.size < w3.heap.size := X3.lt
      clear B8
      have m0 := X8.cell 0
      have m1 := X8.cell 1
      have m2 := X8.cell 2
      have f0 := X8.frozen 0
      have f1 := X8.frozen 1
      have f2 := X8.frozen 2
      have X9 := X8.put3 (.bool (qn q)) (.slice A4 (digs (qt q)).length c4) (.slice A5 (digs (qd q)).length c5)
      have Y9 := Y8.wr3 (r := w.heap.size) (by omega) (.bool (qn q)) (.slice A4 (digs (qt q)).length c4) (.slice A5 (digs (qd q)).length c5)
      have G9 := ((G8.far (Nat.le_refl _) (Nat.le_of_lt hgw) 0 (.bool (qn q))).far (Nat.le_refl _) (Nat.le_of_lt hgw) 1 (.slice A4 (digs (qt q)).length c4)).far (Nat.le_refl _) (Nat.le_of_lt hgw) 2 (.slice A5 (digs (qd q)).length c5)
      have Oa := O4.put3 (b := w.heap.size) hb8 (.bool (qn q)) (.slice A4 (digs (qt q)).length c4) (.slice A5 (digs (qd q)).length c5)
      have Ob := O5.put3 (b := w.heap.size) hb8 (.bool (qn q)) (.slice A4 (digs (qt q)).length c4) (.slice A5 (digs (qd q)).length c5)
      have r0 := X9.cell 0
      have r1 := X9.cell 1
      have r2 := X9.cell 2
      unfold wr3 at X9 Y9 Oa Ob r0 r1 r2
      go_wp2_with fail
      refine bodyPost_ret (v := .tuple #[.agg #[.bool (qn q), .slice A4 (digs (qt q)).length c4, .slice A5 (digs (qd q)).length c5], .bool true]) (by simp [results, r0, r1, r2, go_sem]) rfl ?_
      rw [hE.out]
      exact ⟨A4, c4, A5, c5, _, rfl, Oa.base_le (by omega), Ob.base_le (by omega), hs1, Y9, G9⟩
end Go.Proofs.Ytkjfpaommbjgbaa
