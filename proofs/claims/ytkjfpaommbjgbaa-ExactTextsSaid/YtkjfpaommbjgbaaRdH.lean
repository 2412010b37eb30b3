/- Walks: piece of the reference. -/
import Derived.Test.YtkjfpaommbjgbaaRdG
namespace Go.Proofs.Ytkjfpaommbjgbaa
open Go.RowKit

section
variable {isD : UInt8 → Bool} {rd : List UInt8 → List Nat × Int} {mk : Bool → List Nat → List Nat → Rw} {zz : Rw} {s a b a2 b2 : List UInt8}
theorem pc_none (neg : Bool) (h : s.takeWhile isD = []) : pieceR isD rd mk zz s neg = none := by unfold pieceR; rw [if_pos h]
theorem pc_plain (neg : Bool) (ht : s.takeWhile isD = a) (ha : a ≠ []) (hd : s.dropWhile isD = b) (hh : ¬ b.head? = some 47) : pieceR isD rd mk zz s neg = some (b, mk neg (rd a).1 [1], (rd a).2) := by
  unfold pieceR; rw [ht, hd, if_neg ha, if_neg hh]
theorem pc_none2 (neg : Bool) (ht : s.takeWhile isD = a) (ha : a ≠ []) (hd : s.dropWhile isD = b) (hh : b.head? = some 47) (h2 : b.tail.takeWhile isD = []) : pieceR isD rd mk zz s neg = none := by
  unfold pieceR; rw [ht, hd, if_neg ha, if_pos hh, if_pos h2]
theorem pc_slash (neg : Bool) (ht : s.takeWhile isD = a) (ha : a ≠ []) (hd : s.dropWhile isD = b) (hh : b.head? = some 47) (h2 : b.tail.takeWhile isD = a2) (ha2 : a2 ≠ []) (hd2 : b.tail.dropWhile isD = b2) :
    pieceR isD rd mk zz s neg = if (rd a).2 ≠ 0 ∨ (rd a2).2 ≠ 0 then some (b2, zz, 4) else if (rd a2).1 = [] then some (b2, zz, 3) else some (b2, mk neg (rd a).1 (rd a2).1, 0) := by
  unfold pieceR; rw [ht, hd, if_neg ha, if_pos hh, h2, if_neg ha2, hd2]
end
section
variable {r b0 k : Nat} {l : List UInt8}
theorem byt_drop (h : b0 ≤ k) : byt (l.drop b0) (k - b0) = byt l k := by
  unfold byt
  rw [List.getD_eq_getElem?_getD, List.getD_eq_getElem?_getD, List.getElem?_drop, show b0 + (k - b0) = k by omega]
theorem okd_step (h1 : b0 ≤ k) (h2 : k < l.length) (hok : okd r ((l.drop b0).take (k - b0)) = true) (hd : dval (byt l k) < r) : okd r ((l.drop b0).take (k + 1 - b0)) = true := by
  rw [show k + 1 - b0 = (k - b0) + 1 by omega, okd_take (by rw [List.length_drop]; omega), hok, byt_drop h1, decide_eq_true hd]
  rfl
theorem drop_from (h : b0 ≤ k) : (l.drop b0).drop (k - b0) = l.drop k := by rw [List.drop_drop, show b0 + (k - b0) = k by omega]
theorem tw_from (h : b0 ≤ k) (hok : okd r ((l.drop b0).take (k - b0)) = true) (hend : ∀ c, (l.drop k).head? = some c → isDr r c = false) :
    (l.drop b0).takeWhile (isDr r) = (l.drop b0).take (k - b0) ∧ (l.drop b0).dropWhile (isDr r) = l.drop k := by
  have := tw_split hok (by rw [drop_from h]; exact hend)
  rw [drop_from h] at this
  exact this
theorem end_at (hd : ¬ dval (byt l k) < r) : ∀ c, (l.drop k).head? = some c → isDr r c = false := by
  intro c hc
  rw [List.head?_drop] at hc
  have hb : byt l k = c.toNat := by unfold byt; rw [List.getD_eq_getElem?_getD, hc]; rfl
  rw [hb] at hd
  exact decide_eq_false hd
theorem end_end (h : l.length ≤ k) : ∀ c, (l.drop k).head? = some c → isDr r c = false := by
  intro c hc
  rw [List.head?_drop, List.getElem?_eq_none h] at hc
  cases hc
theorem take_ne (h1 : b0 < k) (h2 : k ≤ l.length) : (l.drop b0).take (k - b0) ≠ [] := fun h => by
  have := congrArg List.length h
  rw [List.length_take, List.length_drop, List.length_nil] at this
  omega
theorem head_byt (h : k < l.length) : (l.drop k).head? = some 47 ↔ byt l k = 47 := by
  obtain ⟨c, h1, h2⟩ := drop_at h
  rw [h1, h2, List.head?_cons]
  exact ⟨fun h => by cases h; rfl, fun h => congrArg some (UInt8.toNat.inj h)⟩
theorem tail_drop : (l.drop k).tail = l.drop (k + 1) := List.tail_drop
end
theorem readA_len (l : List UInt8) (b : Int) : (digs (readA l b).1).length ≤ 512 := by
  have hz : (digs 0).length ≤ 512 := by rw [digs_zero]; simp
  unfold readA readD fitA
  repeat' split
  all_goals first | exact hz | assumption
theorem rrat_rw (neg : Bool) (A D : Option Addr) (c d n m : Nat) (i j : Nat) (w : World) (hi : i = (digs n).length) (hj : j = (digs m).length) (h0 : m ≠ 0) (hl : (digs n).length ≤ 512) (hm : (digs m).length ≤ 512) (ha : RW w w.heap.size A c (digs n)) (hb : RW w w.heap.size D d (digs m)) :
    Calls Try.prog 58 #[.bool neg, .slice A i c, .slice D j d] w (RetRw w (mkr neg (digs n) (digs m))) :=
  rrat_any neg A D c d i j (digs n) (digs m) w hi hj ha hb (Nrm_digs n) (Nrm_digs m) (by rw [val_digs]; exact h0) (by omega) (by omega)
theorem rrat_one (neg : Bool) (A : Option Addr) (c n : Nat) (w : World) (hl : (digs n).length ≤ 512) (ha : RW w w.heap.size A c (digs n)) :
    Calls Try.prog 58 #[.bool neg, .slice A (digs n).length c, .slice (some ⟨w.heap.size, 0, none⟩) 1 1] (w.alloc (.cells #[.int .u32 (1 : Int)] 52)) (RetRw (w.alloc (.cells #[.int .u32 (1 : Int)] 52)) (mkr neg (digs n) [1])) := by
  have h := rrat_rw neg A (some ⟨w.heap.size, 0, none⟩) c 1 n 1 (digs n).length 1 (w.alloc (.cells #[.int .u32 (1 : Int)] 52)) rfl (by rw [digs_one1]; rfl) (by omega) hl (by rw [digs_one1]; simp) (st ha (bal _ _)) (by rw [digs_one1]; exact (RW.one w 52 (show 1 < 4294967296 by omega)).more (by simp))
  rwa [digs_one1] at h
theorem ext_mid (s : ByteArray) (a b : Nat) : (s.extract a b).data.toList = (s.data.toList.drop a).take (b - a) := Lib.extract_data s a b
/-- what piece gives -/
def RetPc (w : World) (l : List UInt8) (x : Option (List UInt8 × Rw × Int)) (e : Ending) (w' : World) : Prop :=
  match x with
  | none => ∃ (q : Rw) (A : Option Addr) (c : Nat) (D : Option Addr) (d : Nat), e = .returned (.tuple #[.int .i64 (-1), .agg #[.bool q.s, .slice A q.a.length c, .slice D q.b.length d], .int .i64 0]) ∧ OW w' w.heap.size A c q.a ∧ OW w' w.heap.size D d q.b ∧ Below w.heap.size w w'
  | some (t, q, f) => ∃ (k : Nat) (A : Option Addr) (c : Nat) (D : Option Addr) (d : Nat), e = .returned (.tuple #[.int .i64 (k : Int), .agg #[.bool q.s, .slice A q.a.length c, .slice D q.b.length d], .int .i64 f]) ∧ k ≤ l.length ∧ l.drop k = t ∧ OW w' w.heap.size A c q.a ∧ OW w' w.heap.size D d q.b ∧ Below w.heap.size w w'


set_option maxRecDepth 100000 in
set_option maxHeartbeats 16000000 in
theorem rpiece_any (s : ByteArray) (p r : Nat) (neg : Bool) (w : World) (hs : s.size ≤ 140737488351232) (hp : p ≤ s.size) (hr1 : 2 ≤ r) (hr2 : r ≤ 36) :
    Calls Try.prog 39 #[.string s, .int .i64 (p : Int), .int .i64 (r : Int), .bool neg] w (RetPc w s.data.toList (pieceR (isDr r) (rdr r) mkr (rwq 0) (s.data.toList.drop p) neg)) := by
  obtain ⟨zq, hzq⟩ : ∃ zq, rwq 0 = zq := ⟨_, rfl⟩
  rw [hzq]
  have HZ := Lib.hid hzq
  clear hzq
  have hsl := s_len s
  have HSL := Lib.hid hsl
  clear hsl
  have X := SB.new w [.bool false, .slice none 0 0, .slice none 0 0] 24
  have B := bal w (.cells #[.bool false, .slice none 0 0, .slice none 0 0] 24)
  obtain ⟨W1, hW1⟩ : ∃ W1, W1 = w.alloc (.cells #[.bool false, .slice none 0 0, .slice none 0 0] 24) := ⟨_, rfl⟩
  rw [← hW1] at X B
  go_enter Try.func39, Try.ntmps39
  go_wp2_with fail
  rw [← hW1]
  clear hW1
  go_loopg [11] (s.size - p) (fun gk s11 wx => ∃ k : Nat, p ≤ k ∧ k ≤ s.size ∧ s11 = .int .i64 (k : Int) ∧ gk = s.size - k ∧ Hid (okd r ((s.data.toList.drop p).take (k - p)) = true) ∧ W1 = wx)
  case atStart => exact ⟨p, Nat.le_refl _, by omega, rfl, rfl, by show _ = _; rw [Nat.sub_self, List.take_zero]; rfl, rfl⟩
  case round =>
    obtain ⟨k, hbk, hk, rfl, rfl, hok, hwx⟩ := hrel
    subst hwx
    by_cases h0 : k < s.size
    · have e1 := s_at h0
      have hdl := dval_le (byt s.data.toList k)
      have hv := fun w => rvalue_any (byt s.data.toList k) w (byt_lt _ _)
      have dk1 : (k : Int) < (s.size : Int) := by omega
      have kp : (0 : Int) ≤ (k : Int) := by omega
      by_cases hd : dval (byt s.data.toList k) < r
      · have hst := Lib.hid (okd_step hbk (by rw [HSL.out]; exact h0) hok.out hd)
        have dk2 : (dval (byt s.data.toList k) : Int) < (r : Int) := by omega
        go_wp2_with (go_at_call 56; refine (hv _).mono ?_; rintro e w' ⟨rfl, rfl⟩)
        go_roundg (s.size - (k + 1))
        case measure => omega
        case rel => exact ⟨k + 1, by omega, by omega, by go_num, rfl, hst, rfl⟩
      · have dk2 : decide (dval (byt s.data.toList k) < r) = false := decide_eq_false hd
        have hend := Lib.hid (end_at (l := s.data.toList) hd)
        clear hd
        obtain ⟨hw1, hw2⟩ := tw_from hbk hok.out hend.out
        have hkl : k ≤ s.data.toList.length := by rw [HSL.out]; omega
        by_cases he : k = p
        · subst he
          rw [Nat.sub_self, List.take_zero] at hw1
          have HE := Lib.hid (pc_none (rd := rdr r) (mk := mkr) (zz := zq) neg hw1)
          clear hw1 hw2 hok hend
          have hz := rzero_rw W1
          rw [HZ.out] at hz
          go_wp2_with (go_at_call 56; refine (hv _).mono ?_; rintro e w' ⟨rfl, rfl⟩)
          have hb8 := X.lt
          refine hz.mono ?_; rintro e' w8 ⟨A4, c4, D4, d4, rfl, O4, O5, B8⟩
          have X8 := X.nx B8
          have B8 := bt B B8
          have m0 := X8.cell 0
          have m1 := X8.cell 1
          have m2 := X8.cell 2
          have mf0 := X8.frozen 0
          have mf1 := X8.frozen 1
          have mf2 := X8.frozen 2
          have X9 := X8.put3 (.bool zq.s) (.slice A4 zq.a.length c4) (.slice D4 zq.b.length d4)
          have B9 := wr3_below (b := w.heap.size) B8 (Nat.le_refl _) (.bool zq.s) (.slice A4 zq.a.length c4) (.slice D4 zq.b.length d4)
          have Oa := O4.put3 (b := w.heap.size) hb8 (.bool zq.s) (.slice A4 zq.a.length c4) (.slice D4 zq.b.length d4)
          have Ob := O5.put3 (b := w.heap.size) hb8 (.bool zq.s) (.slice A4 zq.a.length c4) (.slice D4 zq.b.length d4)
          have r0 := X9.cell 0
          have r1 := X9.cell 1
          have r2 := X9.cell 2
          unfold wr3 at X9 B9 Oa Ob r0 r1 r2
          clear X8 B8
          go_wp2_with fail
          refine bodyPost_ret (v := .tuple #[.int .i64 (-1), .agg #[.bool zq.s, .slice A4 zq.a.length c4, .slice D4 zq.b.length d4], .int .i64 0]) (by simp [results, r0, r1, r2, go_sem]) rfl ?_
          rw [HE.out]
          exact ⟨zq, A4, c4, D4, d4, rfl, Oa.base_le (Nat.le_of_lt hb8), Ob.base_le (Nat.le_of_lt hb8), B9⟩
        · have hne := take_ne (l := s.data.toList) (show p < k by omega) hkl
          have tne : ((k : Int) == (p : Int)) = false := beq_eq_false_iff_ne.2 (by omega)
          have pk : (p : Int) ≤ (k : Int) := by omega
          have pp : (0 : Int) ≤ (p : Int) := by omega
          have ksz : (k : Int) ≤ (s.size : Int) := by omega
          have hx := rread_any (s.extract p k) (r : Int) W1 (by rw [ByteArray.size_extract]; omega)
          rw [ext_mid] at hx
          have hxl := readA_len ((s.data.toList.drop p).take (k - p)) (r : Int)
          have hrd : rdr r ((s.data.toList.drop p).take (k - p)) = (digs (readA ((s.data.toList.drop p).take (k - p)) (r : Int)).1, (readA ((s.data.toList.drop p).take (k - p)) (r : Int)).2) := rfl
          clear he
          generalize readA ((s.data.toList.drop p).take (k - p)) (r : Int) = x at hx hxl hrd
          obtain ⟨n, E⟩ := x
          dsimp only at hx hxl hrd
          replace hrd := Lib.hid hrd
          replace hw1 := Lib.hid hw1
          replace hw2 := Lib.hid hw2
          replace hne := Lib.hid hne
          go_wp2_with (go_at_call 56; refine (hv _).mono ?_; rintro e w' ⟨rfl, rfl⟩)
          refine hx.mono ?_; rintro e' w3 ⟨A, c, rfl, O, B3⟩
          clear hx hok
          have X3 := X.nx B3
          replace B3 := bt B B3
          clear X B
          have X := X3
          have B := B3
          clear X3 B3
          dsimp only at O
          by_cases hs47 : byt s.data.toList k = 47
          · have hh := Lib.hid ((head_byt (l := s.data.toList) (k := k) (by rw [HSL.out]; exact h0)).2 hs47)
            have t47 : ((byt s.data.toList k : Int) != 47) = false := by rw [hs47]; rfl
            have tks : ((k : Int) == (s.size : Int)) = false := beq_eq_false_iff_ne.2 (by omega)
            have hwr : IntKind.i64.wrap ((k : Int) + 1) = ((k + 1 : Nat) : Int) := (IntWalk.i64_in _ (by omega)).trans (by omega)
            clear hs47
            go_wp2_with fail
            clear hv dk1 dk2 kp e1 hdl t47 tks hwr tne pk pp ksz hkl
            obtain ⟨k_, rfl⟩ : ∃ k_ : Nat, k_ = k := ⟨_, rfl⟩
            obtain ⟨p2, hp2⟩ : ∃ p2, p2 = k_ + 1 := ⟨_, rfl⟩
            have hp2s : p2 ≤ s.size := by omega
            rw [show ((k_ : Int) + 1) = (p2 : Int) by omega]
            replace hp2 := Lib.hid hp2
            clear hbk hk hend h0 hp
            go_loopg [11] (s.size - p2) (fun gk s11 wx => ∃ k : Nat, p2 ≤ k ∧ k ≤ s.size ∧ s11 = .int .i64 (k : Int) ∧ gk = s.size - k ∧ Hid (okd r ((s.data.toList.drop p2).take (k - p2)) = true) ∧ w3 = wx)
            case atStart => exact ⟨p2, Nat.le_refl _, by omega, rfl, rfl, by show _ = _; rw [Nat.sub_self, List.take_zero]; rfl, rfl⟩
            case round =>
              obtain ⟨k, hbk, hk, rfl, rfl, hok, hwx⟩ := hrel
              subst hwx
              by_cases h0 : k < s.size
              · have e1 := s_at h0
                have hdl := dval_le (byt s.data.toList k)
                have hv := fun w => rvalue_any (byt s.data.toList k) w (byt_lt _ _)
                have dk1 : (k : Int) < (s.size : Int) := by omega
                have kp : (0 : Int) ≤ (k : Int) := by omega
                by_cases hd : dval (byt s.data.toList k) < r
                · have hst := Lib.hid (okd_step hbk (by rw [HSL.out]; exact h0) hok.out hd)
                  have dk2 : (dval (byt s.data.toList k) : Int) < (r : Int) := by omega
                  go_wp2_with (go_at_call 56; refine (hv _).mono ?_; rintro e w' ⟨rfl, rfl⟩)
                  go_roundg (s.size - (k + 1))
                  case measure => omega
                  case rel => exact ⟨k + 1, by omega, by omega, by go_num, rfl, hst, rfl⟩
                · have dk2 : decide (dval (byt s.data.toList k) < r) = false := decide_eq_false hd
                  have hend := Lib.hid (end_at (l := s.data.toList) hd)
                  clear hd
                  obtain ⟨hv1, hv2⟩ := tw_from hbk hok.out hend.out
                  have hkl : k ≤ s.data.toList.length := by rw [HSL.out]; omega
                  rw [show s.data.toList.drop p2 = (s.data.toList.drop k_).tail by rw [tail_drop, hp2.out]] at hv1 hv2
                  by_cases he : k = p2
                  · subst he
                    rw [Nat.sub_self, List.take_zero] at hv1
                    have HE := Lib.hid (pc_none2 (rd := rdr r) (mk := mkr) (zz := zq) neg hw1.out hne.out hw2.out hh.out hv1)
                    clear hv1 hv2 hok hend
                    have hz := rzero_rw w3
                    rw [HZ.out] at hz
                    go_wp2_with (go_at_call 56; refine (hv _).mono ?_; rintro e w' ⟨rfl, rfl⟩)
                    have hb8 := X.lt
                    refine hz.mono ?_; rintro e' w8 ⟨A4, c4, D4, d4, rfl, O4, O5, B8⟩
                    have X8 := X.nx B8
                    have B8 := bt B B8
                    have m0 := X8.cell 0
                    have m1 := X8.cell 1
                    have m2 := X8.cell 2
                    have mf0 := X8.frozen 0
                    have mf1 := X8.frozen 1
                    have mf2 := X8.frozen 2
                    have X9 := X8.put3 (.bool zq.s) (.slice A4 zq.a.length c4) (.slice D4 zq.b.length d4)
                    have B9 := wr3_below (b := w.heap.size) B8 (Nat.le_refl _) (.bool zq.s) (.slice A4 zq.a.length c4) (.slice D4 zq.b.length d4)
                    have Oa := O4.put3 (b := w.heap.size) hb8 (.bool zq.s) (.slice A4 zq.a.length c4) (.slice D4 zq.b.length d4)
                    have Ob := O5.put3 (b := w.heap.size) hb8 (.bool zq.s) (.slice A4 zq.a.length c4) (.slice D4 zq.b.length d4)
                    have r0 := X9.cell 0
                    have r1 := X9.cell 1
                    have r2 := X9.cell 2
                    unfold wr3 at X9 B9 Oa Ob r0 r1 r2
                    clear X8 B8
                    go_wp2_with fail
                    refine bodyPost_ret (v := .tuple #[.int .i64 (-1), .agg #[.bool zq.s, .slice A4 zq.a.length c4, .slice D4 zq.b.length d4], .int .i64 0]) (by simp [results, r0, r1, r2, go_sem]) rfl ?_
                    rw [HE.out]
                    exact ⟨zq, A4, c4, D4, d4, rfl, Oa.base_le (Nat.le_of_lt hb8), Ob.base_le (Nat.le_of_lt hb8), B9⟩
                  · have hne2 := take_ne (l := s.data.toList) (show p2 < k by omega) hkl
                    rw [show s.data.toList.drop p2 = (s.data.toList.drop k_).tail by rw [tail_drop, hp2.out]] at hne2
                    have tne : ((k : Int) == (p2 : Int)) = false := beq_eq_false_iff_ne.2 (by omega)
                    have pk : (p2 : Int) ≤ (k : Int) := by omega
                    have pp : (0 : Int) ≤ (p2 : Int) := by omega
                    have ksz : (k : Int) ≤ (s.size : Int) := by omega
                    have HE := pc_slash (rd := rdr r) (mk := mkr) (zz := zq) neg hw1.out hne.out hw2.out hh.out hv1 hne2 hv2
                    rw [hrd.out] at HE
                    have hx := rread_any (s.extract p2 k) (r : Int) w3 (by rw [ByteArray.size_extract]; omega)
                    rw [ext_mid, show s.data.toList.drop p2 = (s.data.toList.drop k_).tail by rw [tail_drop, hp2.out]] at hx
                    have hxl2 := readA_len ((s.data.toList.drop k_).tail.take (k - p2)) (r : Int)
                    have hrd2 : rdr r ((s.data.toList.drop k_).tail.take (k - p2)) = (digs (readA ((s.data.toList.drop k_).tail.take (k - p2)) (r : Int)).1, (readA ((s.data.toList.drop k_).tail.take (k - p2)) (r : Int)).2) := rfl
                    rw [hrd2] at HE
                    clear he hrd2 hv1 hv2 hne2 hrd hw1 hw2 hne
                    generalize readA ((s.data.toList.drop k_).tail.take (k - p2)) (r : Int) = x at hx hxl2 HE
                    obtain ⟨n2, E2⟩ := x
                    dsimp only at hx hxl2 HE
                    replace HE := Lib.hid HE
                    go_wp2_with (go_at_call 56; refine (hv _).mono ?_; rintro e w' ⟨rfl, rfl⟩)
                    refine hx.mono ?_; rintro e' w5 ⟨A2, c2, rfl, O2, B5⟩
                    clear hx hok
                    dsimp only at O2
                    replace O := O.below B5 (Nat.le_refl _)
                    have X5 := X.nx B5
                    replace B5 := bt B B5
                    clear X B
                    have X := X5
                    have B := B5
                    clear X5 B5
                    clear tne pk pp hv dk1 dk2 kp e1 hdl
                    by_cases hE1 : E = 0
                    · subst hE1
                      by_cases hE2 : E2 = 0
                      · subst hE2
                        by_cases hn2 : n2 = 0
                        · subst hn2
                          have tl : (digs 0).length = 0 := by rw [digs_zero]; rfl
                          replace HE := HE.out
                          rw [if_neg (by simp), if_pos digs_zero] at HE
                          replace HE := Lib.hid HE
                          have hz := rzero_rw w5
                          rw [HZ.out] at hz
                          go_wp2_with fail
                          have hb8 := X.lt
                          refine hz.mono ?_; rintro e' w8 ⟨A4, c4, D4, d4, rfl, O4, O5, B8⟩
                          have X8 := X.nx B8
                          have B8 := bt B B8
                          have m0 := X8.cell 0
                          have m1 := X8.cell 1
                          have m2 := X8.cell 2
                          have mf0 := X8.frozen 0
                          have mf1 := X8.frozen 1
                          have mf2 := X8.frozen 2
                          have X9 := X8.put3 (.bool zq.s) (.slice A4 zq.a.length c4) (.slice D4 zq.b.length d4)
                          have B9 := wr3_below (b := w.heap.size) B8 (Nat.le_refl _) (.bool zq.s) (.slice A4 zq.a.length c4) (.slice D4 zq.b.length d4)
                          have Oa := O4.put3 (b := w.heap.size) hb8 (.bool zq.s) (.slice A4 zq.a.length c4) (.slice D4 zq.b.length d4)
                          have Ob := O5.put3 (b := w.heap.size) hb8 (.bool zq.s) (.slice A4 zq.a.length c4) (.slice D4 zq.b.length d4)
                          have r0 := X9.cell 0
                          have r1 := X9.cell 1
                          have r2 := X9.cell 2
                          unfold wr3 at X9 B9 Oa Ob r0 r1 r2
                          clear X8 B8
                          go_wp2_with fail
                          refine bodyPost_ret (v := .tuple #[.int .i64 (k : Int), .agg #[.bool zq.s, .slice A4 zq.a.length c4, .slice D4 zq.b.length d4], .int .i64 3]) (by simp [results, r0, r1, r2, go_sem]) rfl ?_
                          rw [HE.out]
                          exact ⟨k, A4, c4, D4, d4, rfl, hkl, rfl, Oa.base_le (Nat.le_of_lt hb8), Ob.base_le (Nat.le_of_lt hb8), B9⟩
                        · have hd2 : digs n2 ≠ [] := fun h => hn2 (by rw [← val_digs n2, h]; rfl)
                          have hlp : ¬ (digs n2).length = 0 := fun h => hd2 (List.eq_nil_of_length_eq_zero h)
                          have tl : (((digs n2).length : Int) == 0) = false := beq_eq_false_iff_ne.2 (by omega)
                          replace HE := HE.out
                          rw [if_neg (by simp), if_neg hd2] at HE
                          have hR := rrat_rw neg A A2 c c2 n n2 (digs n).length (digs n2).length w5 rfl rfl hn2 hxl hxl2 O.rw O2.rw
                          obtain ⟨y, hy⟩ : ∃ y, mkr neg (digs n) (digs n2) = y := ⟨_, rfl⟩
                          rw [hy] at hR HE
                          replace HE := Lib.hid HE
                          clear hy hd2 hn2
                          go_wp2_with fail
                          have hb8 := X.lt
                          refine hR.mono ?_; rintro e' w8 ⟨A4, c4, D4, d4, rfl, O4, O5, B8⟩
                          have X8 := X.nx B8
                          have B8 := bt B B8
                          have m0 := X8.cell 0
                          have m1 := X8.cell 1
                          have m2 := X8.cell 2
                          have mf0 := X8.frozen 0
                          have mf1 := X8.frozen 1
                          have mf2 := X8.frozen 2
                          have X9 := X8.put3 (.bool y.s) (.slice A4 y.a.length c4) (.slice D4 y.b.length d4)
                          have B9 := wr3_below (b := w.heap.size) B8 (Nat.le_refl _) (.bool y.s) (.slice A4 y.a.length c4) (.slice D4 y.b.length d4)
                          have Oa := O4.put3 (b := w.heap.size) hb8 (.bool y.s) (.slice A4 y.a.length c4) (.slice D4 y.b.length d4)
                          have Ob := O5.put3 (b := w.heap.size) hb8 (.bool y.s) (.slice A4 y.a.length c4) (.slice D4 y.b.length d4)
                          have r0 := X9.cell 0
                          have r1 := X9.cell 1
                          have r2 := X9.cell 2
                          unfold wr3 at X9 B9 Oa Ob r0 r1 r2
                          clear X8 B8
                          go_wp2_with fail
                          refine bodyPost_ret (v := .tuple #[.int .i64 (k : Int), .agg #[.bool y.s, .slice A4 y.a.length c4, .slice D4 y.b.length d4], .int .i64 0]) (by simp [results, r0, r1, r2, go_sem]) rfl ?_
                          rw [HE.out]
                          exact ⟨k, A4, c4, D4, d4, rfl, hkl, rfl, Oa.base_le (Nat.le_of_lt hb8), Ob.base_le (Nat.le_of_lt hb8), B9⟩
                      · have te : (E2 != 0) = true := bne_iff_ne.2 hE2
                        replace HE := HE.out
                        rw [if_pos (.inr hE2)] at HE
                        replace HE := Lib.hid HE
                        have hz := rzero_rw w5
                        rw [HZ.out] at hz
                        go_wp2_with fail
                        have hb8 := X.lt
                        refine hz.mono ?_; rintro e' w8 ⟨A4, c4, D4, d4, rfl, O4, O5, B8⟩
                        have X8 := X.nx B8
                        have B8 := bt B B8
                        have m0 := X8.cell 0
                        have m1 := X8.cell 1
                        have m2 := X8.cell 2
                        have mf0 := X8.frozen 0
                        have mf1 := X8.frozen 1
                        have mf2 := X8.frozen 2
                        have X9 := X8.put3 (.bool zq.s) (.slice A4 zq.a.length c4) (.slice D4 zq.b.length d4)
                        have B9 := wr3_below (b := w.heap.size) B8 (Nat.le_refl _) (.bool zq.s) (.slice A4 zq.a.length c4) (.slice D4 zq.b.length d4)
                        have Oa := O4.put3 (b := w.heap.size) hb8 (.bool zq.s) (.slice A4 zq.a.length c4) (.slice D4 zq.b.length d4)
                        have Ob := O5.put3 (b := w.heap.size) hb8 (.bool zq.s) (.slice A4 zq.a.length c4) (.slice D4 zq.b.length d4)
                        have r0 := X9.cell 0
                        have r1 := X9.cell 1
                        have r2 := X9.cell 2
                        unfold wr3 at X9 B9 Oa Ob r0 r1 r2
                        clear X8 B8
                        go_wp2_with fail
                        refine bodyPost_ret (v := .tuple #[.int .i64 (k : Int), .agg #[.bool zq.s, .slice A4 zq.a.length c4, .slice D4 zq.b.length d4], .int .i64 4]) (by simp [results, r0, r1, r2, go_sem]) rfl ?_
                        rw [HE.out]
                        exact ⟨k, A4, c4, D4, d4, rfl, hkl, rfl, Oa.base_le (Nat.le_of_lt hb8), Ob.base_le (Nat.le_of_lt hb8), B9⟩
                    · have te : (E != 0) = true := bne_iff_ne.2 hE1
                      replace HE := HE.out
                      rw [if_pos (.inl hE1)] at HE
                      replace HE := Lib.hid HE
                      have hz := rzero_rw w5
                      rw [HZ.out] at hz
                      go_wp2_with fail
                      have hb8 := X.lt
                      refine hz.mono ?_; rintro e' w8 ⟨A4, c4, D4, d4, rfl, O4, O5, B8⟩
                      have X8 := X.nx B8
                      have B8 := bt B B8
                      have m0 := X8.cell 0
                      have m1 := X8.cell 1
                      have m2 := X8.cell 2
                      have mf0 := X8.frozen 0
                      have mf1 := X8.frozen 1
                      have mf2 := X8.frozen 2
                      have X9 := X8.put3 (.bool zq.s) (.slice A4 zq.a.length c4) (.slice D4 zq.b.length d4)
                      have B9 := wr3_below (b := w.heap.size) B8 (Nat.le_refl _) (.bool zq.s) (.slice A4 zq.a.length c4) (.slice D4 zq.b.length d4)
                      have Oa := O4.put3 (b := w.heap.size) hb8 (.bool zq.s) (.slice A4 zq.a.length c4) (.slice D4 zq.b.length d4)
                      have Ob := O5.put3 (b := w.heap.size) hb8 (.bool zq.s) (.slice A4 zq.a.length c4) (.slice D4 zq.b.length d4)
                      have r0 := X9.cell 0
                      have r1 := X9.cell 1
                      have r2 := X9.cell 2
                      unfold wr3 at X9 B9 Oa Ob r0 r1 r2
                      clear X8 B8
                      go_wp2_with fail
                      refine bodyPost_ret (v := .tuple #[.int .i64 (k : Int), .agg #[.bool zq.s, .slice A4 zq.a.length c4, .slice D4 zq.b.length d4], .int .i64 4]) (by simp [results, r0, r1, r2, go_sem]) rfl ?_
                      rw [HE.out]
                      exact ⟨k, A4, c4, D4, d4, rfl, hkl, rfl, Oa.base_le (Nat.le_of_lt hb8), Ob.base_le (Nat.le_of_lt hb8), B9⟩
              · obtain rfl : k = s.size := by omega
                have hend := Lib.hid (end_end (r := r) (l := s.data.toList) (k := s.size) (by rw [HSL.out]; exact Nat.le_refl _))
                clear h0
                obtain ⟨hv1, hv2⟩ := tw_from hbk hok.out hend.out
                have hkl : s.size ≤ s.data.toList.length := by rw [HSL.out]; omega
                rw [show s.data.toList.drop p2 = (s.data.toList.drop k_).tail by rw [tail_drop, hp2.out]] at hv1 hv2
                by_cases he : s.size = p2
                · subst he
                  rw [Nat.sub_self, List.take_zero] at hv1
                  have HE := Lib.hid (pc_none2 (rd := rdr r) (mk := mkr) (zz := zq) neg hw1.out hne.out hw2.out hh.out hv1)
                  clear hv1 hv2 hok hend
                  have hz := rzero_rw w3
                  rw [HZ.out] at hz
                  go_wp2_with fail
                  have hb8 := X.lt
                  refine hz.mono ?_; rintro e' w8 ⟨A4, c4, D4, d4, rfl, O4, O5, B8⟩
                  have X8 := X.nx B8
                  have B8 := bt B B8
                  have m0 := X8.cell 0
                  have m1 := X8.cell 1
                  have m2 := X8.cell 2
                  have mf0 := X8.frozen 0
                  have mf1 := X8.frozen 1
                  have mf2 := X8.frozen 2
                  have X9 := X8.put3 (.bool zq.s) (.slice A4 zq.a.length c4) (.slice D4 zq.b.length d4)
                  have B9 := wr3_below (b := w.heap.size) B8 (Nat.le_refl _) (.bool zq.s) (.slice A4 zq.a.length c4) (.slice D4 zq.b.length d4)
                  have Oa := O4.put3 (b := w.heap.size) hb8 (.bool zq.s) (.slice A4 zq.a.length c4) (.slice D4 zq.b.length d4)
                  have Ob := O5.put3 (b := w.heap.size) hb8 (.bool zq.s) (.slice A4 zq.a.length c4) (.slice D4 zq.b.length d4)
                  have r0 := X9.cell 0
                  have r1 := X9.cell 1
                  have r2 := X9.cell 2
                  unfold wr3 at X9 B9 Oa Ob r0 r1 r2
                  clear X8 B8
                  go_wp2_with fail
                  refine bodyPost_ret (v := .tuple #[.int .i64 (-1), .agg #[.bool zq.s, .slice A4 zq.a.length c4, .slice D4 zq.b.length d4], .int .i64 0]) (by simp [results, r0, r1, r2, go_sem]) rfl ?_
                  rw [HE.out]
                  exact ⟨zq, A4, c4, D4, d4, rfl, Oa.base_le (Nat.le_of_lt hb8), Ob.base_le (Nat.le_of_lt hb8), B9⟩
                · have hne2 := take_ne (l := s.data.toList) (show p2 < s.size by omega) hkl
                  rw [show s.data.toList.drop p2 = (s.data.toList.drop k_).tail by rw [tail_drop, hp2.out]] at hne2
                  have tne : ((s.size : Int) == (p2 : Int)) = false := beq_eq_false_iff_ne.2 (by omega)
                  have pk : (p2 : Int) ≤ (s.size : Int) := by omega
                  have pp : (0 : Int) ≤ (p2 : Int) := by omega
                  have ksz : (s.size : Int) ≤ (s.size : Int) := by omega
                  have HE := pc_slash (rd := rdr r) (mk := mkr) (zz := zq) neg hw1.out hne.out hw2.out hh.out hv1 hne2 hv2
                  rw [hrd.out] at HE
                  have hx := rread_any (s.extract p2 s.size) (r : Int) w3 (by rw [ByteArray.size_extract]; omega)
                  rw [ext_mid, show s.data.toList.drop p2 = (s.data.toList.drop k_).tail by rw [tail_drop, hp2.out]] at hx
                  have hxl2 := readA_len ((s.data.toList.drop k_).tail.take (s.size - p2)) (r : Int)
                  have hrd2 : rdr r ((s.data.toList.drop k_).tail.take (s.size - p2)) = (digs (readA ((s.data.toList.drop k_).tail.take (s.size - p2)) (r : Int)).1, (readA ((s.data.toList.drop k_).tail.take (s.size - p2)) (r : Int)).2) := rfl
                  rw [hrd2] at HE
                  clear he hrd2 hv1 hv2 hne2 hrd hw1 hw2 hne
                  generalize readA ((s.data.toList.drop k_).tail.take (s.size - p2)) (r : Int) = x at hx hxl2 HE
                  obtain ⟨n2, E2⟩ := x
                  dsimp only at hx hxl2 HE
                  replace HE := Lib.hid HE
                  go_wp2_with fail
                  refine hx.mono ?_; rintro e' w5 ⟨A2, c2, rfl, O2, B5⟩
                  clear hx hok
                  dsimp only at O2
                  replace O := O.below B5 (Nat.le_refl _)
                  have X5 := X.nx B5
                  replace B5 := bt B B5
                  clear X B
                  have X := X5
                  have B := B5
                  clear X5 B5
                  clear tne pk pp
                  by_cases hE1 : E = 0
                  · subst hE1
                    by_cases hE2 : E2 = 0
                    · subst hE2
                      by_cases hn2 : n2 = 0
                      · subst hn2
                        have tl : (digs 0).length = 0 := by rw [digs_zero]; rfl
                        replace HE := HE.out
                        rw [if_neg (by simp), if_pos digs_zero] at HE
                        replace HE := Lib.hid HE
                        have hz := rzero_rw w5
                        rw [HZ.out] at hz
                        go_wp2_with fail
                        have hb8 := X.lt
                        refine hz.mono ?_; rintro e' w8 ⟨A4, c4, D4, d4, rfl, O4, O5, B8⟩
                        have X8 := X.nx B8
                        have B8 := bt B B8
                        have m0 := X8.cell 0
                        have m1 := X8.cell 1
                        have m2 := X8.cell 2
                        have mf0 := X8.frozen 0
                        have mf1 := X8.frozen 1
                        have mf2 := X8.frozen 2
                        have X9 := X8.put3 (.bool zq.s) (.slice A4 zq.a.length c4) (.slice D4 zq.b.length d4)
                        have B9 := wr3_below (b := w.heap.size) B8 (Nat.le_refl _) (.bool zq.s) (.slice A4 zq.a.length c4) (.slice D4 zq.b.length d4)
                        have Oa := O4.put3 (b := w.heap.size) hb8 (.bool zq.s) (.slice A4 zq.a.length c4) (.slice D4 zq.b.length d4)
                        have Ob := O5.put3 (b := w.heap.size) hb8 (.bool zq.s) (.slice A4 zq.a.length c4) (.slice D4 zq.b.length d4)
                        have r0 := X9.cell 0
                        have r1 := X9.cell 1
                        have r2 := X9.cell 2
                        unfold wr3 at X9 B9 Oa Ob r0 r1 r2
                        clear X8 B8
                        go_wp2_with fail
                        refine bodyPost_ret (v := .tuple #[.int .i64 (s.size : Int), .agg #[.bool zq.s, .slice A4 zq.a.length c4, .slice D4 zq.b.length d4], .int .i64 3]) (by simp [results, r0, r1, r2, go_sem]) rfl ?_
                        rw [HE.out]
                        exact ⟨s.size, A4, c4, D4, d4, rfl, hkl, rfl, Oa.base_le (Nat.le_of_lt hb8), Ob.base_le (Nat.le_of_lt hb8), B9⟩
                      · have hd2 : digs n2 ≠ [] := fun h => hn2 (by rw [← val_digs n2, h]; rfl)
                        have hlp : ¬ (digs n2).length = 0 := fun h => hd2 (List.eq_nil_of_length_eq_zero h)
                        have tl : (((digs n2).length : Int) == 0) = false := beq_eq_false_iff_ne.2 (by omega)
                        replace HE := HE.out
                        rw [if_neg (by simp), if_neg hd2] at HE
                        have hR := rrat_rw neg A A2 c c2 n n2 (digs n).length (digs n2).length w5 rfl rfl hn2 hxl hxl2 O.rw O2.rw
                        obtain ⟨y, hy⟩ : ∃ y, mkr neg (digs n) (digs n2) = y := ⟨_, rfl⟩
                        rw [hy] at hR HE
                        replace HE := Lib.hid HE
                        clear hy hd2 hn2
                        go_wp2_with fail
                        have hb8 := X.lt
                        refine hR.mono ?_; rintro e' w8 ⟨A4, c4, D4, d4, rfl, O4, O5, B8⟩
                        have X8 := X.nx B8
                        have B8 := bt B B8
                        have m0 := X8.cell 0
                        have m1 := X8.cell 1
                        have m2 := X8.cell 2
                        have mf0 := X8.frozen 0
                        have mf1 := X8.frozen 1
                        have mf2 := X8.frozen 2
                        have X9 := X8.put3 (.bool y.s) (.slice A4 y.a.length c4) (.slice D4 y.b.length d4)
                        have B9 := wr3_below (b := w.heap.size) B8 (Nat.le_refl _) (.bool y.s) (.slice A4 y.a.length c4) (.slice D4 y.b.length d4)
                        have Oa := O4.put3 (b := w.heap.size) hb8 (.bool y.s) (.slice A4 y.a.length c4) (.slice D4 y.b.length d4)
                        have Ob := O5.put3 (b := w.heap.size) hb8 (.bool y.s) (.slice A4 y.a.length c4) (.slice D4 y.b.length d4)
                        have r0 := X9.cell 0
                        have r1 := X9.cell 1
                        have r2 := X9.cell 2
                        unfold wr3 at X9 B9 Oa Ob r0 r1 r2
                        clear X8 B8
                        go_wp2_with fail
                        refine bodyPost_ret (v := .tuple #[.int .i64 (s.size : Int), .agg #[.bool y.s, .slice A4 y.a.length c4, .slice D4 y.b.length d4], .int .i64 0]) (by simp [results, r0, r1, r2, go_sem]) rfl ?_
                        rw [HE.out]
                        exact ⟨s.size, A4, c4, D4, d4, rfl, hkl, rfl, Oa.base_le (Nat.le_of_lt hb8), Ob.base_le (Nat.le_of_lt hb8), B9⟩
                    · have te : (E2 != 0) = true := bne_iff_ne.2 hE2
                      replace HE := HE.out
                      rw [if_pos (.inr hE2)] at HE
                      replace HE := Lib.hid HE
                      have hz := rzero_rw w5
                      rw [HZ.out] at hz
                      go_wp2_with fail
                      have hb8 := X.lt
                      refine hz.mono ?_; rintro e' w8 ⟨A4, c4, D4, d4, rfl, O4, O5, B8⟩
                      have X8 := X.nx B8
                      have B8 := bt B B8
                      have m0 := X8.cell 0
                      have m1 := X8.cell 1
                      have m2 := X8.cell 2
                      have mf0 := X8.frozen 0
                      have mf1 := X8.frozen 1
                      have mf2 := X8.frozen 2
                      have X9 := X8.put3 (.bool zq.s) (.slice A4 zq.a.length c4) (.slice D4 zq.b.length d4)
                      have B9 := wr3_below (b := w.heap.size) B8 (Nat.le_refl _) (.bool zq.s) (.slice A4 zq.a.length c4) (.slice D4 zq.b.length d4)
                      have Oa := O4.put3 (b := w.heap.size) hb8 (.bool zq.s) (.slice A4 zq.a.length c4) (.slice D4 zq.b.length d4)
                      have Ob := O5.put3 (b := w.heap.size) hb8 (.bool zq.s) (.slice A4 zq.a.length c4) (.slice D4 zq.b.length d4)
                      have r0 := X9.cell 0
                      have r1 := X9.cell 1
                      have r2 := X9.cell 2
                      unfold wr3 at X9 B9 Oa Ob r0 r1 r2
                      clear X8 B8
                      go_wp2_with fail
                      refine bodyPost_ret (v := .tuple #[.int .i64 (s.size : Int), .agg #[.bool zq.s, .slice A4 zq.a.length c4, .slice D4 zq.b.length d4], .int .i64 4]) (by simp [results, r0, r1, r2, go_sem]) rfl ?_
                      rw [HE.out]
                      exact ⟨s.size, A4, c4, D4, d4, rfl, hkl, rfl, Oa.base_le (Nat.le_of_lt hb8), Ob.base_le (Nat.le_of_lt hb8), B9⟩
                  · have te : (E != 0) = true := bne_iff_ne.2 hE1
                    replace HE := HE.out
                    rw [if_pos (.inl hE1)] at HE
                    replace HE := Lib.hid HE
                    have hz := rzero_rw w5
                    rw [HZ.out] at hz
                    go_wp2_with fail
                    have hb8 := X.lt
                    refine hz.mono ?_; rintro e' w8 ⟨A4, c4, D4, d4, rfl, O4, O5, B8⟩
                    have X8 := X.nx B8
                    have B8 := bt B B8
                    have m0 := X8.cell 0
                    have m1 := X8.cell 1
                    have m2 := X8.cell 2
                    have mf0 := X8.frozen 0
                    have mf1 := X8.frozen 1
                    have mf2 := X8.frozen 2
                    have X9 := X8.put3 (.bool zq.s) (.slice A4 zq.a.length c4) (.slice D4 zq.b.length d4)
                    have B9 := wr3_below (b := w.heap.size) B8 (Nat.le_refl _) (.bool zq.s) (.slice A4 zq.a.length c4) (.slice D4 zq.b.length d4)
                    have Oa := O4.put3 (b := w.heap.size) hb8 (.bool zq.s) (.slice A4 zq.a.length c4) (.slice D4 zq.b.length d4)
                    have Ob := O5.put3 (b := w.heap.size) hb8 (.bool zq.s) (.slice A4 zq.a.length c4) (.slice D4 zq.b.length d4)
                    have r0 := X9.cell 0
                    have r1 := X9.cell 1
                    have r2 := X9.cell 2
                    unfold wr3 at X9 B9 Oa Ob r0 r1 r2
                    clear X8 B8
                    go_wp2_with fail
                    refine bodyPost_ret (v := .tuple #[.int .i64 (s.size : Int), .agg #[.bool zq.s, .slice A4 zq.a.length c4, .slice D4 zq.b.length d4], .int .i64 4]) (by simp [results, r0, r1, r2, go_sem]) rfl ?_
                    rw [HE.out]
                    exact ⟨s.size, A4, c4, D4, d4, rfl, hkl, rfl, Oa.base_le (Nat.le_of_lt hb8), Ob.base_le (Nat.le_of_lt hb8), B9⟩
          · have HE := Lib.hid (pc_plain (rd := rdr r) (mk := mkr) (zz := zq) neg hw1.out hne.out hw2.out (fun h => hs47 ((head_byt (by rw [HSL.out]; exact h0)).1 h)))
            replace HE := HE.out
            rw [hrd.out] at HE
            dsimp only at HE
            replace HE := Lib.hid HE
            have hR := rrat_one neg A c n w3 hxl O.rw
            obtain ⟨y, hy⟩ : ∃ y, mkr neg (digs n) [1] = y := ⟨_, rfl⟩
            rw [hy] at hR HE
            clear hy
            have Bk := bal w3 (.cells #[.int .u32 (1 : Int)] 52)
            replace X := X.nx Bk
            replace B := bt B Bk
            clear Bk
            have t47 : ((byt s.data.toList k : Int) != 47) = true := bne_iff_ne.2 (by omega)
            have tks : ((k : Int) == (s.size : Int)) = false := beq_eq_false_iff_ne.2 (by omega)
            clear hs47
            go_wp2_with fail
            have hb8 := X.lt
            refine hR.mono ?_; rintro e' w8 ⟨A4, c4, D4, d4, rfl, O4, O5, B8⟩
            have X8 := X.nx B8
            have B8 := bt B B8
            have m0 := X8.cell 0
            have m1 := X8.cell 1
            have m2 := X8.cell 2
            have mf0 := X8.frozen 0
            have mf1 := X8.frozen 1
            have mf2 := X8.frozen 2
            have X9 := X8.put3 (.bool y.s) (.slice A4 y.a.length c4) (.slice D4 y.b.length d4)
            have B9 := wr3_below (b := w.heap.size) B8 (Nat.le_refl _) (.bool y.s) (.slice A4 y.a.length c4) (.slice D4 y.b.length d4)
            have Oa := O4.put3 (b := w.heap.size) hb8 (.bool y.s) (.slice A4 y.a.length c4) (.slice D4 y.b.length d4)
            have Ob := O5.put3 (b := w.heap.size) hb8 (.bool y.s) (.slice A4 y.a.length c4) (.slice D4 y.b.length d4)
            have r0 := X9.cell 0
            have r1 := X9.cell 1
            have r2 := X9.cell 2
            unfold wr3 at X9 B9 Oa Ob r0 r1 r2
            clear X8 B8
            go_wp2_with fail
            refine bodyPost_ret (v := .tuple #[.int .i64 (k : Int), .agg #[.bool y.s, .slice A4 y.a.length c4, .slice D4 y.b.length d4], .int .i64 E]) (by simp [results, r0, r1, r2, go_sem]) rfl ?_
            rw [HE.out]
            exact ⟨k, A4, c4, D4, d4, rfl, hkl, rfl, Oa.base_le (Nat.le_of_lt hb8), Ob.base_le (Nat.le_of_lt hb8), B9⟩
    · obtain rfl : k = s.size := by omega
      have hend := Lib.hid (end_end (r := r) (l := s.data.toList) (k := s.size) (by rw [HSL.out]; exact Nat.le_refl _))
      clear h0
      obtain ⟨hw1, hw2⟩ := tw_from hbk hok.out hend.out
      have hkl : s.size ≤ s.data.toList.length := by rw [HSL.out]; omega
      by_cases he : s.size = p
      · subst he
        rw [Nat.sub_self, List.take_zero] at hw1
        have HE := Lib.hid (pc_none (rd := rdr r) (mk := mkr) (zz := zq) neg hw1)
        clear hw1 hw2 hok hend
        have hz := rzero_rw W1
        rw [HZ.out] at hz
        go_wp2_with fail
        have hb8 := X.lt
        refine hz.mono ?_; rintro e' w8 ⟨A4, c4, D4, d4, rfl, O4, O5, B8⟩
        have X8 := X.nx B8
        have B8 := bt B B8
        have m0 := X8.cell 0
        have m1 := X8.cell 1
        have m2 := X8.cell 2
        have mf0 := X8.frozen 0
        have mf1 := X8.frozen 1
        have mf2 := X8.frozen 2
        have X9 := X8.put3 (.bool zq.s) (.slice A4 zq.a.length c4) (.slice D4 zq.b.length d4)
        have B9 := wr3_below (b := w.heap.size) B8 (Nat.le_refl _) (.bool zq.s) (.slice A4 zq.a.length c4) (.slice D4 zq.b.length d4)
        have Oa := O4.put3 (b := w.heap.size) hb8 (.bool zq.s) (.slice A4 zq.a.length c4) (.slice D4 zq.b.length d4)
        have Ob := O5.put3 (b := w.heap.size) hb8 (.bool zq.s) (.slice A4 zq.a.length c4) (.slice D4 zq.b.length d4)
        have r0 := X9.cell 0
        have r1 := X9.cell 1
        have r2 := X9.cell 2
        unfold wr3 at X9 B9 Oa Ob r0 r1 r2
        clear X8 B8
        go_wp2_with fail
        refine bodyPost_ret (v := .tuple #[.int .i64 (-1), .agg #[.bool zq.s, .slice A4 zq.a.length c4, .slice D4 zq.b.length d4], .int .i64 0]) (by simp [results, r0, r1, r2, go_sem]) rfl ?_
        rw [HE.out]
        exact ⟨zq, A4, c4, D4, d4, rfl, Oa.base_le (Nat.le_of_lt hb8), Ob.base_le (Nat.le_of_lt hb8), B9⟩
      · have hne := take_ne (l := s.data.toList) (show p < s.size by omega) hkl
        have tne : ((s.size : Int) == (p : Int)) = false := beq_eq_false_iff_ne.2 (by omega)
        have pk : (p : Int) ≤ (s.size : Int) := by omega
        have pp : (0 : Int) ≤ (p : Int) := by omega
        have ksz : (s.size : Int) ≤ (s.size : Int) := by omega
        have hx := rread_any (s.extract p s.size) (r : Int) W1 (by rw [ByteArray.size_extract]; omega)
        rw [ext_mid] at hx
        have hxl := readA_len ((s.data.toList.drop p).take (s.size - p)) (r : Int)
        have hrd : rdr r ((s.data.toList.drop p).take (s.size - p)) = (digs (readA ((s.data.toList.drop p).take (s.size - p)) (r : Int)).1, (readA ((s.data.toList.drop p).take (s.size - p)) (r : Int)).2) := rfl
        clear he
        generalize readA ((s.data.toList.drop p).take (s.size - p)) (r : Int) = x at hx hxl hrd
        obtain ⟨n, E⟩ := x
        dsimp only at hx hxl hrd
        replace hrd := Lib.hid hrd
        replace hw1 := Lib.hid hw1
        replace hw2 := Lib.hid hw2
        replace hne := Lib.hid hne
        go_wp2_with fail
        refine hx.mono ?_; rintro e' w3 ⟨A, c, rfl, O, B3⟩
        clear hx hok
        have X3 := X.nx B3
        replace B3 := bt B B3
        clear X B
        have X := X3
        have B := B3
        clear X3 B3
        dsimp only at O
        have HE := Lib.hid (pc_plain (rd := rdr r) (mk := mkr) (zz := zq) neg hw1.out hne.out hw2.out (by rw [List.head?_drop, List.getElem?_eq_none (by rw [HSL.out]; exact Nat.le_refl _)]; simp))
        replace HE := HE.out
        rw [hrd.out] at HE
        dsimp only at HE
        replace HE := Lib.hid HE
        have hR := rrat_one neg A c n w3 hxl O.rw
        obtain ⟨y, hy⟩ : ∃ y, mkr neg (digs n) [1] = y := ⟨_, rfl⟩
        rw [hy] at hR HE
        clear hy
        have Bk := bal w3 (.cells #[.int .u32 (1 : Int)] 52)
        replace X := X.nx Bk
        replace B := bt B Bk
        clear Bk
        go_wp2_with fail
        have hb8 := X.lt
        refine hR.mono ?_; rintro e' w8 ⟨A4, c4, D4, d4, rfl, O4, O5, B8⟩
        have X8 := X.nx B8
        have B8 := bt B B8
        have m0 := X8.cell 0
        have m1 := X8.cell 1
        have m2 := X8.cell 2
        have mf0 := X8.frozen 0
        have mf1 := X8.frozen 1
        have mf2 := X8.frozen 2
        have X9 := X8.put3 (.bool y.s) (.slice A4 y.a.length c4) (.slice D4 y.b.length d4)
        have B9 := wr3_below (b := w.heap.size) B8 (Nat.le_refl _) (.bool y.s) (.slice A4 y.a.length c4) (.slice D4 y.b.length d4)
        have Oa := O4.put3 (b := w.heap.size) hb8 (.bool y.s) (.slice A4 y.a.length c4) (.slice D4 y.b.length d4)
        have Ob := O5.put3 (b := w.heap.size) hb8 (.bool y.s) (.slice A4 y.a.length c4) (.slice D4 y.b.length d4)
        have r0 := X9.cell 0
        have r1 := X9.cell 1
        have r2 := X9.cell 2
        unfold wr3 at X9 B9 Oa Ob r0 r1 r2
        clear X8 B8
        go_wp2_with fail
        refine bodyPost_ret (v := .tuple #[.int .i64 (s.size : Int), .agg #[.bool y.s, .slice A4 y.a.length c4, .slice D4 y.b.length d4], .int .i64 E]) (by simp [results, r0, r1, r2, go_sem]) rfl ?_
        rw [HE.out]
        exact ⟨s.size, A4, c4, D4, d4, rfl, hkl, rfl, Oa.base_le (Nat.le_of_lt hb8), Ob.base_le (Nat.le_of_lt hb8), B9⟩
end Go.Proofs.Ytkjfpaommbjgbaa
