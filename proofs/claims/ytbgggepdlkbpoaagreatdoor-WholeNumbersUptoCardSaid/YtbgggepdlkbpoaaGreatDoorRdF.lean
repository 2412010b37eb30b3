/- Walks: Read of exact. -/
import Derived.Test.YtbgggepdlkbpoaaGreatDoorGK
import Derived.Test.YtbgggepdlkbpoaaGreatDoorRdE
import Derived.Test.YtbgggepdlkbpoaaGreatDoorGH
namespace Go.Proofs.YtbgggepdlkbpoaaGreatDoor
open Go.RowKit

/-- a number stored, as one operation of a drawn region -/
theorem step_st6 {ops : Array Oper} {o : Oper} {a : Act} {w : World} {K : Act → World → Prop} {Q : Exit → Act → World → Prop} {E : Prop} (hgd : o.guard = none) (x y : Operand) (ho : o.op = .store 26 x y)
    (b : Nat) (hx : a.eval x = .pointer (some ⟨b, 0, none⟩)) (x0 x1 x2 x3 x4 x5 : Value) (hy : a.eval y = .agg #[x0, x1, x2, x3, x4, x5]) (hc : RC w b 6) (g0 : x0.oneCell' = true) (g1 : x1.oneCell' = true) (g2 : x2.oneCell' = true) (g3 : x3.oneCell' = true) (g4 : x4.oneCell' = true) (g5 : x5.oneCell' = true)
    (h : K (a.put o.dst undef) (wr6 w b x0 x1 x2 x3 x4 x5)) : if Region.wanted o (yielded ops a.tmps) = true then Oper.wp Tryz.prog o a w K Q else E := by
  rw [if_pos (by simp [Region.wanted, hgd])]
  exact wp_store_mid 26 x y ho b 0 #[x0, x1, x2, x3, x4, x5] hx hy
    (fun j hj => by
      have h2 := hc.1 j hj
      rw [Nat.zero_add]
      exact ⟨by rw [h2.1]; rfl, h2.2⟩) infoN (all_oneCell_toArray (cs := [x0, x1, x2, x3, x4, x5]) (fun v hv => by
        simp only [List.mem_cons, List.not_mem_nil, or_false] at hv
        rcases hv with rfl | rfl | rfl | rfl | rfl | rfl <;> assumption)) h
/-- Read of anything, as the program goes -/
def readZ (s : List UInt8) (b : Int) : Rw × Rw × Int := if b = 2 ∨ b = 8 ∨ b = 10 ∨ b = 16 then readQ s b.toNat else (rw0, rw0, 1)
theorem preF_none_q {s : List UInt8} {r : Nat} (h : preF r false false s = none) : readQ s r = (rw0, rw0, 5) := by unfold readQ; rw [h]
section
variable {s t : List UInt8} {r k : Nat} {re im : Rw} {ok : Bool} {e : Int}
theorem readQ_no (h : preF r false false s = some (k, t)) (hn : numP (isDr k) (rdr k) mkr (rwq 0) t 0 = (re, im, false, e)) : readQ s r = (rw0, rw0, 5) := by
  unfold readQ; rw [h]; dsimp only; rw [hn]; rfl
theorem readQ_long (h : preF r false false s = some (k, t)) (hn : numP (isDr k) (rdr k) mkr (rwq 0) t 0 = (re, im, true, e)) (hl : 16384 < s.length) : readQ s r = (rw0, rw0, 4) := by
  unfold readQ; rw [h]; dsimp only; rw [hn]; dsimp only; rw [if_neg (by simp), if_pos hl]
theorem readQ_bad (h : preF r false false s = some (k, t)) (hn : numP (isDr k) (rdr k) mkr (rwq 0) t 0 = (re, im, true, e)) (hl : ¬ 16384 < s.length) (he : e ≠ 0) : readQ s r = (rw0, rw0, e) := by
  unfold readQ; rw [h]; dsimp only; rw [hn]; dsimp only; rw [if_neg (by simp), if_neg hl, if_pos he]
theorem readQ_ok (h : preF r false false s = some (k, t)) (hn : numP (isDr k) (rdr k) mkr (rwq 0) t 0 = (re, im, true, 0)) (hl : ¬ 16384 < s.length) : readQ s r = fitQ (qv re) (qv im) := by
  unfold readQ; rw [h]; dsimp only; rw [hn]; dsimp only; rw [if_neg (by simp), if_neg hl, if_neg (by simp)]
/-- what is read without an error is a number -/
theorem num_fit (hk : rdOk k) (hn : numP (isDr k) (rdr k) mkr (rwq 0) t 0 = (re, im, true, 0)) : ∃ x y, re = rwq x ∧ im = rwq y := by
  have hl := hk.le
  have hb := num_body_r (r := k) hl.1 (by omega) t
  cases hq : bodyR (isDr k) (rdr k) mkr (rwq 0) t with
  | none =>
    have h1 := hb.1 hq
    rw [hn] at h1
    cases h1
  | some q =>
    obtain ⟨re1, im1, e1⟩ := q
    obtain ⟨re', im', h2, h3⟩ := hb.2 _ _ _ hq
    rw [hn] at h2
    simp only [Prod.mk.injEq, true_and] at h2
    obtain ⟨rfl, rfl, rfl⟩ := h2
    obtain ⟨rfl, rfl⟩ := h3 rfl
    obtain ⟨⟨x, hx, _⟩, ⟨y, hy, _⟩⟩ := body_fit hq
    exact ⟨x, y, hx, hy⟩
end


set_option maxRecDepth 100000 in
set_option maxHeartbeats 4000000 in
theorem eread_arg (s : ByteArray) (b : Int) (w : World) (h : ¬ (b = 2 ∨ b = 8 ∨ b = 10 ∨ b = 16)) : Calls Tryz.prog 13 #[.string s, .int .i64 b] w (RetNE w (rw0, rw0, 1)) := by
  simp only [not_or] at h
  obtain ⟨h2, h8, h10, h16⟩ := h
  have t2 : (b != 2) = true := bne_iff_ne.2 h2
  have t8 : (b != 8) = true := bne_iff_ne.2 h8
  have t10 : (b != 10) = true := bne_iff_ne.2 h10
  have t16 : (b != 16) = true := bne_iff_ne.2 h16
  clear h2 h8 h10 h16

  have S1 := SB.new w [.bool false, .slice none 0 0, .slice none 0 0, .bool false, .slice none 0 0, .slice none 0 0] 26
  have B1 := bal w (.cells #[.bool false, .slice none 0 0, .slice none 0 0, .bool false, .slice none 0 0, .slice none 0 0] 26)
  go_enter Tryz.func13, Tryz.ntmps13
  have hRC := S1.rc (n := 6)
  go_wp2_with (refine wp_st6 rfl (.tmp 4) (.tmp 24) rfl _ rfl _ _ _ _ _ _ rfl hRC rfl rfl rfl rfl rfl rfl ?_)
  have s6 := hRC.put6 (.bool false) (.slice none 0 0) (.slice none 0 0) (.bool false) (.slice none 0 0) (.slice none 0 0)
  have B6 := wr6_below (b := w.heap.size) B1 (Nat.le_refl _) (.bool false) (.slice none 0 0) (.slice none 0 0) (.bool false) (.slice none 0 0) (.slice none 0 0)
  have r0' := s6.cell 0
  have r1' := s6.cell 1
  have r2' := s6.cell 2
  have r3' := s6.cell 3
  have r4' := s6.cell 4
  have r5' := s6.cell 5
  refine bodyPost_ret (v := .tuple #[.agg #[.bool false, .slice none 0 0, .slice none 0 0, .bool false, .slice none 0 0, .slice none 0 0], .int .i64 1]) (by simp [results, r0', r1', r2', r3', r4', r5', go_sem]) rfl ?_
  rw [show ((rw0, rw0, (1 : Int)) : Rw × Rw × Int) = (rw0, rw0, 1) from rfl]
  exact retNE_nil 1 B6

set_option maxRecDepth 100000 in
set_option maxHeartbeats 8000000 in
theorem eread_core (s : ByteArray) (r : Nat) (w : World) (hr : rdOk r) (hs : s.size ≤ 140737488351232) : Calls Tryz.prog 13 #[.string s, .int .i64 (r : Int)] w (RetNE w (readQ s.data.toList r)) := by
  have S1 := SB.new w [.bool false, .slice none 0 0, .slice none 0 0, .bool false, .slice none 0 0, .slice none 0 0] 26
  have B1 := bal w (.cells #[.bool false, .slice none 0 0, .slice none 0 0, .bool false, .slice none 0 0, .slice none 0 0] 26)
  have z1 : (w.alloc (.cells #[.bool false, .slice none 0 0, .slice none 0 0, .bool false, .slice none 0 0, .slice none 0 0] 26)).heap.size = w.heap.size + 1 := by simp
  obtain ⟨W0, hW0⟩ : ∃ W0, W0 = w.alloc (.cells #[.bool false, .slice none 0 0, .slice none 0 0, .bool false, .slice none 0 0, .slice none 0 0] 26) := ⟨_, rfl⟩
  rw [← hW0] at S1 B1 z1
  go_enter Tryz.func13, Tryz.ntmps13
  go_upto_region 1 with fail
  rw [← hW0]
  clear hW0
  go_cut [23] (fun s23 wx => s23 = .bool false ∧ wx = W0)
  case first =>
    have hr' := hr
    unfold rdOk at hr'
    rcases hr' with rfl | rfl | rfl | rfl
    all_goals
      go_wp2_with fail
      go_meet
      exact ⟨rfl, rfl⟩
  case rest =>
    obtain ⟨rfl, hwc⟩ := hcut
    subst hwc
    have S2 := SB.new wc [.string s, .int .i64 (r : Int), .int .i64 0] 69
    have B2 := bal wc (.cells #[.string s, .int .i64 (r : Int), .int .i64 0] 69)
    rw [z1] at S2
    have X := S1.nx B2
    have B := bt B1 B2
    obtain ⟨W1, hW1⟩ : ∃ W1, W1 = wc.alloc (.cells #[.string s, .int .i64 (r : Int), .int .i64 0] 69) := ⟨_, rfl⟩
    rw [← hW1] at S2 X B
    clear S1 B1 B2
    have hp := prefixes_any (w.heap.size + 1) s r (.int .i64 0) W1 hs S2
    have hpo := preF_ok s.data.toList.length s.data.toList r
    go_wp2_with fail
    rw [← hW1]
    clear hW1
    cases hpf : preF r false false s.data.toList with
    | none =>
      rw [hpf] at hp
      refine hp.mono ?_; rintro e' w3 ⟨F, rfl⟩
      have X3 := X.below F.below (by omega)
      have B3 := B.trans (F.below.mono (by omega))
      clear hp F X B S2
      have hRC := X3.rc (n := 6)
      go_wp2_with (refine wp_st6 rfl (.tmp 4) (.tmp 32) rfl _ rfl _ _ _ _ _ _ rfl hRC rfl rfl rfl rfl rfl rfl ?_)
      have s6 := hRC.put6 (.bool false) (.slice none 0 0) (.slice none 0 0) (.bool false) (.slice none 0 0) (.slice none 0 0)
      have B6 := wr6_below (b := w.heap.size) B3 (Nat.le_refl _) (.bool false) (.slice none 0 0) (.slice none 0 0) (.bool false) (.slice none 0 0) (.slice none 0 0)
      have r0' := s6.cell 0
      have r1' := s6.cell 1
      have r2' := s6.cell 2
      have r3' := s6.cell 3
      have r4' := s6.cell 4
      have r5' := s6.cell 5
      refine bodyPost_ret (v := .tuple #[.agg #[.bool false, .slice none 0 0, .slice none 0 0, .bool false, .slice none 0 0, .slice none 0 0], .int .i64 5]) (by simp [results, r0', r1', r2', r3', r4', r5', go_sem]) rfl ?_
      rw [preF_none_q hpf]
      exact retNE_nil 5 B6
    | some q =>
      obtain ⟨k, t⟩ := q
      rw [hpf] at hp
      obtain ⟨hk, htl⟩ := hpo _ _ _ _ (Nat.le_refl _) hr hpf
      replace hk := hk
      refine hp.mono ?_; rintro e' w3 ⟨F, rfl, s', hs', S3⟩
      clear hp
      have X3 := X.below F.below (by omega)
      have B3 := B.trans (F.below.mono (by omega))
      have hsz : s'.size ≤ 140737488351232 := by have h1 := s_len s'; have h2 := s_len s; rw [hs'] at h1; omega
      have hkl := hk.le
      have hn := number_any (w.heap.size + 1) s' k 0 w3 hsz hkl.1 (by omega) S3
      rw [hs'] at hn
      obtain ⟨x, hx⟩ : ∃ x, numP (isDr k) (rdr k) mkr (rwq 0) t 0 = x := ⟨_, rfl⟩
      rw [hx] at hn
      obtain ⟨re, im, ok, e⟩ := x
      replace hpf := Lib.hid hpf
      replace hx := Lib.hid hx
      clear hs' hsz htl hkl hpo X F B
      go_wp2_with fail
      refine hn.mono ?_; rintro e' w4 ⟨A1, c1, D1, d1, A2, c2, D2, d2, s4, rfl, O1, O2, O3, O4, S4, F4⟩
      clear hn
      dsimp only at O1 O2 O3 O4 S4
      have hz3 : w.heap.size + 2 ≤ w3.heap.size := by have := S3.lt; omega
      have X4 := X3.below F4.below (by omega)
      have B4 := B3.trans (F4.below.mono (by omega))
      have Ba := bal w4 (.cells #[.bool re.s, .slice A1 re.a.length c1, .slice D1 re.b.length d1] 24)
      have Bb := bal (w4.alloc (.cells #[.bool re.s, .slice A1 re.a.length c1, .slice D1 re.b.length d1] 24)) (.cells #[.bool im.s, .slice A2 im.a.length c2, .slice D2 im.b.length d2] 24)
      have Bz := bt Ba Bb
      have X5 := X4.nx Bz
      have S5 := S4.nx Bz
      have B5 := bt B4 Bz
      clear X4 B4 X3 B3
      cases ok
      · clear Ba Bb Bz
        have hRC := X5.rc (n := 6)
        go_wp2_with (refine wp_st6 rfl (.tmp 4) (.tmp 42) rfl _ rfl _ _ _ _ _ _ rfl hRC rfl rfl rfl rfl rfl rfl ?_)
        have s6 := hRC.put6 (.bool false) (.slice none 0 0) (.slice none 0 0) (.bool false) (.slice none 0 0) (.slice none 0 0)
        have B6 := wr6_below (b := w.heap.size) B5 (Nat.le_refl _) (.bool false) (.slice none 0 0) (.slice none 0 0) (.bool false) (.slice none 0 0) (.slice none 0 0)
        have r0' := s6.cell 0
        have r1' := s6.cell 1
        have r2' := s6.cell 2
        have r3' := s6.cell 3
        have r4' := s6.cell 4
        have r5' := s6.cell 5
        refine bodyPost_ret (v := .tuple #[.agg #[.bool false, .slice none 0 0, .slice none 0 0, .bool false, .slice none 0 0, .slice none 0 0], .int .i64 5]) (by simp [results, r0', r1', r2', r3', r4', r5', go_sem]) rfl ?_
        rw [readQ_no hpf.out hx.out]
        exact retNE_nil 5 B6
      · by_cases hlong : 16384 < s.size
        · have dl : (16384 : Int) < (s.size : Int) := by omega
          have HE := Lib.hid (readQ_long hpf.out hx.out (by rw [s_len]; exact hlong))
          clear hlong Ba Bb Bz
          have hRC := X5.rc (n := 6)
          go_wp2_with (refine wp_st6 rfl (.tmp 4) (.tmp 47) rfl _ rfl _ _ _ _ _ _ rfl hRC rfl rfl rfl rfl rfl rfl ?_)
          have s6 := hRC.put6 (.bool false) (.slice none 0 0) (.slice none 0 0) (.bool false) (.slice none 0 0) (.slice none 0 0)
          have B6 := wr6_below (b := w.heap.size) B5 (Nat.le_refl _) (.bool false) (.slice none 0 0) (.slice none 0 0) (.bool false) (.slice none 0 0) (.slice none 0 0)
          have r0' := s6.cell 0
          have r1' := s6.cell 1
          have r2' := s6.cell 2
          have r3' := s6.cell 3
          have r4' := s6.cell 4
          have r5' := s6.cell 5
          refine bodyPost_ret (v := .tuple #[.agg #[.bool false, .slice none 0 0, .slice none 0 0, .bool false, .slice none 0 0, .slice none 0 0], .int .i64 4]) (by simp [results, r0', r1', r2', r3', r4', r5', go_sem]) rfl ?_
          rw [HE.out]
          exact retNE_nil 4 B6
        · have dl : decide ((16384 : Int) < (s.size : Int)) = false := decide_eq_false (by omega)
          have hnl : ¬ 16384 < s.data.toList.length := by rw [s_len]; exact hlong
          clear hlong
          have n2 := S5.cell 2
          by_cases he : e = 0
          · subst he
            have HE := Lib.hid (readQ_ok hpf.out hx.out hnl)
            obtain ⟨x, y, hxx, hyy⟩ := num_fit hk hx.out
            rw [hxx, hyy, qv_rwq, qv_rwq] at HE
            subst hxx hyy
            simp only [rwq] at O1 O2 O3 O4 X5 S5 B5 n2 Ba Bb Bz ⊢
            clear hx hnl
            have Y1 := (SB.new w4 [.bool (qn x), .slice A1 (digs (qt x)).length c1, .slice D1 (digs (qd x)).length d1] 24).nx Bb
            have Y2 := SB.new (w4.alloc (.cells #[.bool (qn x), .slice A1 (digs (qt x)).length c1, .slice D1 (digs (qd x)).length d1] 24)) [.bool (qn y), .slice A2 (digs (qt y)).length c2, .slice D2 (digs (qd y)).length d2] 24
            rw [show (w4.alloc (.cells #[.bool (qn x), .slice A1 (digs (qt x)).length c1, .slice D1 (digs (qd x)).length d1] 24)).heap.size = w4.heap.size + 1 by simp] at Y2
            have hf := fun w' B => efit_any (.agg #[.bool (qn x), .slice A1 (digs (qt x)).length c1, .slice D1 (digs (qd x)).length d1]) (.agg #[.bool (qn y), .slice A2 (digs (qt y)).length c2, .slice D2 (digs (qd y)).length d2]) x y w' ⟨A1, c1, D1, d1, rfl, st O1.rw B, st O2.rw B⟩ ⟨A2, c2, D2, d2, rfl, st O3.rw B, st O4.rw B⟩
            generalize fitQ x y = X at *
            obtain ⟨X1, X2, X3⟩ := X
            have a0 := Y1.cell 0
            have a1 := Y1.cell 1
            have a2 := Y1.cell 2
            have b0 := Y2.cell 0
            have b1 := Y2.cell 1
            have b2 := Y2.cell 2
            go_wp2_with fail
            refine (hf _ Bz).mono ?_; rintro e' w6 ⟨A5, c5, D5, d5, A6, c6, D6, d6, rfl, Q1, Q2, Q3, Q4, B6⟩
            dsimp only at Q1 Q2 Q3 Q4
            clear hf
            have X6 := X5.nx B6
            have hRC := X6.rc (n := 6)
            have hb6 := bt B5 B6
            have hsz : w.heap.size < ((w4.alloc (.cells #[.bool (qn x), .slice A1 (digs (qt x)).length c1, .slice D1 (digs (qd x)).length d1] 24)).alloc (.cells #[.bool (qn y), .slice A2 (digs (qt y)).length c2, .slice D2 (digs (qd y)).length d2] 24)).heap.size := X5.lt
            clear B6 a0 a1 a2 b0 b1 b2 n2 Y1 Y2 Ba Bb Bz X5 S5 B5
            go_wp2_with (refine wp_st6 rfl (.tmp 4) (.tmp 62) rfl _ rfl _ _ _ _ _ _ rfl hRC rfl rfl rfl rfl rfl rfl ?_)
            have s6 := hRC.put6 (.bool X1.s) (.slice A5 X1.a.length c5) (.slice D5 X1.b.length d5) (.bool X2.s) (.slice A6 X2.a.length c6) (.slice D6 X2.b.length d6)
            have B9 := wr6_below (b := w.heap.size) hb6 (Nat.le_refl _) (.bool X1.s) (.slice A5 X1.a.length c5) (.slice D5 X1.b.length d5) (.bool X2.s) (.slice A6 X2.a.length c6) (.slice D6 X2.b.length d6)
            have P1 := Q1.put6 (b := w.heap.size) hsz (.bool X1.s) (.slice A5 X1.a.length c5) (.slice D5 X1.b.length d5) (.bool X2.s) (.slice A6 X2.a.length c6) (.slice D6 X2.b.length d6)
            have P2 := Q2.put6 (b := w.heap.size) hsz (.bool X1.s) (.slice A5 X1.a.length c5) (.slice D5 X1.b.length d5) (.bool X2.s) (.slice A6 X2.a.length c6) (.slice D6 X2.b.length d6)
            have P3 := Q3.put6 (b := w.heap.size) hsz (.bool X1.s) (.slice A5 X1.a.length c5) (.slice D5 X1.b.length d5) (.bool X2.s) (.slice A6 X2.a.length c6) (.slice D6 X2.b.length d6)
            have P4 := Q4.put6 (b := w.heap.size) hsz (.bool X1.s) (.slice A5 X1.a.length c5) (.slice D5 X1.b.length d5) (.bool X2.s) (.slice A6 X2.a.length c6) (.slice D6 X2.b.length d6)
            have r0' := s6.cell 0
            have r1' := s6.cell 1
            have r2' := s6.cell 2
            have r3' := s6.cell 3
            have r4' := s6.cell 4
            have r5' := s6.cell 5
            refine bodyPost_ret (v := .tuple #[.agg #[.bool X1.s, .slice A5 X1.a.length c5, .slice D5 X1.b.length d5, .bool X2.s, .slice A6 X2.a.length c6, .slice D6 X2.b.length d6], .int .i64 X3]) (by simp [results, r0', r1', r2', r3', r4', r5', go_sem]) rfl ?_
            rw [HE.out]
            exact ⟨A5, c5, D5, d5, A6, c6, D6, d6, rfl, P1.base_le (Nat.le_of_lt hsz), P2.base_le (Nat.le_of_lt hsz), P3.base_le (Nat.le_of_lt hsz), P4.base_le (Nat.le_of_lt hsz), B9⟩
          · have te : (e != 0) = true := bne_iff_ne.2 he
            have HE := Lib.hid (readQ_bad hpf.out hx.out hnl he)
            clear he hnl
            go_wp2_with fail
            obtain ⟨w5, hw5⟩ : ∃ w5, w5 = ((w4.alloc (.cells #[.bool re.s, .slice A1 re.a.length c1, .slice D1 re.b.length d1] 24)).alloc (.cells #[.bool im.s, .slice A2 im.a.length c2, .slice D2 im.b.length d2] 24)) := ⟨_, rfl⟩
            rw [← hw5] at X5 S5 B5 n2 ⊢
            clear hw5 Ba Bb Bz
            have hRC : RC w5.drew w.heap.size 6 := X5.rc (n := 6)
            replace S5 := S5.dr
            replace B5 : Below w.heap.size w w5.drew := bdN B5 1
            refine AnyW.regionQ (fun _ => false) 7 (fun w' => w'.cell? ⟨(w.heap.size + 1), 2, none⟩ = some (.int .i64 e)) rfl (by kernel_rfl) (by kernel_rfl) (by (repeat (with_reducible (first | refine quiet_then ?_ | refine quiet_block ?_))); exact quiet_body) n2 (fun Q' hQK hq hns hHeld => ?_)
            generalize w5.drew = wd at *
            refine AnyW.nextT (i := 0) (v := ?_) hq hns (.inr hHeld) rfl rfl (by kernel_rfl) (Or.inl ⟨by rfl, ?_⟩) ?_
            rotate_left
            · intro w' _; go_simp <;> with_reducible rfl
            try simp only [List.setIfInBounds_toArray, List.set_cons_zero, List.set_cons_succ]
            refine AnyW.nextT (i := 1) (v := ?_) hq hns (.inr hHeld) rfl rfl (by kernel_rfl) (Or.inl ⟨by rfl, ?_⟩) ?_
            rotate_left
            · intro w' _; go_simp <;> with_reducible rfl
            try simp only [List.setIfInBounds_toArray, List.set_cons_zero, List.set_cons_succ]
            refine AnyW.nextT (i := 2) (v := ?_) hq hns (.inr hHeld) rfl rfl (by kernel_rfl) (Or.inl ⟨by rfl, ?_⟩) ?_
            rotate_left
            · intro w' _; go_simp <;> with_reducible rfl
            try simp only [List.setIfInBounds_toArray, List.set_cons_zero, List.set_cons_succ]
            refine AnyW.nextT (i := 3) (v := ?_) hq hns (.inr hHeld) rfl rfl (by kernel_rfl) (Or.inl ⟨by rfl, ?_⟩) ?_
            rotate_left
            · intro w' _; go_simp <;> with_reducible rfl
            try simp only [List.setIfInBounds_toArray, List.set_cons_zero, List.set_cons_succ]
            refine AnyW.next (i := 4) (v := ?_) hq hns hHeld rfl rfl (by kernel_rfl) (Or.inl ⟨by rfl, ?_⟩) ?_
            rotate_left
            · intro w' hSw; (try dsimp only at hSw); go_simp <;> with_reducible rfl
            try simp only [List.setIfInBounds_toArray, List.set_cons_zero, List.set_cons_succ]
            refine AnyW.one 5 (by kernel_rfl) rfl (fun K' hK => ?_)
            refine step_st6 rfl (.tmp 4) (.tmp 54) rfl w.heap.size rfl _ _ _ _ _ _ rfl hRC rfl rfl rfl rfl rfl rfl ?_
            have s6 := hRC.put6 (.bool false) (.slice none 0 0) (.slice none 0 0) (.bool false) (.slice none 0 0) (.slice none 0 0)
            have S6 := S5.wr6 (r := w.heap.size) (by omega) (.bool false) (.slice none 0 0) (.slice none 0 0) (.bool false) (.slice none 0 0) (.slice none 0 0)
            have B6 := wr6_below (b := w.heap.size) B5 (Nat.le_refl _) (.bool false) (.slice none 0 0) (.slice none 0 0) (.bool false) (.slice none 0 0) (.slice none 0 0)
            refine hK.out _ _ (.inr (S6.cell 2)) (fun hG => ?_)
            have hHeld := hG.resolve_left (notGone.spec (by rfl))
            clear hK K' hG
            try simp only [List.setIfInBounds_toArray, List.set_cons_zero, List.set_cons_succ]
            refine AnyW.nextT (i := 6) (v := ?_) hq hns (.inr hHeld) rfl rfl (by kernel_rfl) (Or.inl ⟨by rfl, ?_⟩) ?_
            rotate_left
            · intro w' _; go_simp <;> with_reducible rfl
            try simp only [List.setIfInBounds_toArray, List.set_cons_zero, List.set_cons_succ]
            refine AnyW.done (by kernel_rfl) (hQK.out _ _ ?_)
            clear hQK hq hns hHeld
            have r0' := s6.cell 0
            have r1' := s6.cell 1
            have r2' := s6.cell 2
            have r3' := s6.cell 3
            have r4' := s6.cell 4
            have r5' := s6.cell 5
            go_wp2_with fail
            refine bodyPost_ret (v := .tuple #[.agg #[.bool false, .slice none 0 0, .slice none 0 0, .bool false, .slice none 0 0, .slice none 0 0], .int .i64 e]) (by simp [results, r0', r1', r2', r3', r4', r5', go_sem]) rfl ?_
            rw [HE.out]
            exact retNE_nil e B6
theorem eread_any (s : ByteArray) (b : Int) (w : World) (hs : s.size ≤ 140737488351232) : Calls Tryz.prog 13 #[.string s, .int .i64 b] w (RetNE w (readZ s.data.toList b)) := by
  unfold readZ
  by_cases h : b = 2 ∨ b = 8 ∨ b = 10 ∨ b = 16
  · rw [if_pos h]
    obtain ⟨r, rfl⟩ := Int.eq_ofNat_of_zero_le (show 0 ≤ b by omega)
    exact eread_core s r w (by unfold rdOk; omega) hs
  · rw [if_neg h]
    exact eread_arg s b w h
end Go.Proofs.YtbgggepdlkbpoaaGreatDoor
