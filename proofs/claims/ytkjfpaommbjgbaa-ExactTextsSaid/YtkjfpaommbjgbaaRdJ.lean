/- Walks: Read of the reference. -/
import Derived.Test.YtkjfpaommbjgbaaRdI
namespace Go.Proofs.Ytkjfpaommbjgbaa
open Go.RowKit

/-- Read of anything, as the reference goes -/
def readZF (s : List UInt8) (b : Int) : Rw × Rw × Int := if b = 2 ∨ b = 8 ∨ b = 10 ∨ b = 16 then readF s b.toNat else (rw0, rw0, 1)
section
variable {s t : List UInt8} {r k : Nat} {re im : Rw} {e : Int}
theorem readF_pre (h : preF r false false s = none) : readF s r = (rw0, rw0, 5) := by unfold readF; rw [h]
theorem readF_no (h : preF r false false s = some (k, t)) (hn : bodyR (isDr k) (rdr k) mkr (rwq 0) t = none) : readF s r = (rw0, rw0, 5) := by unfold readF; rw [h]; dsimp only; rw [hn]
theorem readF_long (h : preF r false false s = some (k, t)) (hn : bodyR (isDr k) (rdr k) mkr (rwq 0) t = some (re, im, e)) (hl : 16384 < s.length) : readF s r = (rw0, rw0, 4) := by
  unfold readF; rw [h]; dsimp only; rw [hn]; dsimp only; rw [if_pos hl]
theorem readF_bad (h : preF r false false s = some (k, t)) (hn : bodyR (isDr k) (rdr k) mkr (rwq 0) t = some (re, im, e)) (hl : ¬ 16384 < s.length) (he : e ≠ 0) : readF s r = (rw0, rw0, e) := by
  unfold readF; rw [h]; dsimp only; rw [hn]; dsimp only; rw [if_neg hl, if_pos he]
theorem readF_ok (h : preF r false false s = some (k, t)) (hn : bodyR (isDr k) (rdr k) mkr (rwq 0) t = some (re, im, 0)) (hl : ¬ 16384 < s.length) : readF s r = (re, im, 0) := by
  unfold readF; rw [h]; dsimp only; rw [hn]; dsimp only; rw [if_neg hl, if_neg (by simp)]
end
theorem rradix_any (b : Int) (w : World) : Calls Try.prog 16 #[.int .i64 b] w fun e w' => e = .returned (.bool (decide (b = 2 ∨ b = 8 ∨ b = 10 ∨ b = 16))) ∧ w = w' := by
  by_cases h : b = 2 ∨ b = 8 ∨ b = 10 ∨ b = 16
  · rw [decide_eq_true h]
    rcases h with rfl | rfl | rfl | rfl
    all_goals
      go_enter Try.func16, Try.ntmps16
      go_wp2_with fail
      go_ret
      exact ⟨rfl, rfl⟩
  · rw [decide_eq_false h]
    simp only [not_or] at h
    obtain ⟨h2, h8, h10, h16⟩ := h
    have t2 : (b == 2) = false := beq_eq_false_iff_ne.2 h2
    have t8 : (b == 8) = false := beq_eq_false_iff_ne.2 h8
    have t10 : (b == 10) = false := beq_eq_false_iff_ne.2 h10
    have t16 : (b == 16) = false := beq_eq_false_iff_ne.2 h16
    clear h2 h8 h10 h16
    go_enter Try.func16, Try.ntmps16
    go_wp2_with fail
    go_ret
    exact ⟨rfl, rfl⟩
section
variable {l : List UInt8} {p k q : Nat} {told ex : Bool}
theorem two_at (h : p + 1 < l.length) : ∃ c, l.drop p = (l.drop p).headD 0 :: c :: l.drop (p + 2) ∧ byt l p = ((l.drop p).headD 0).toNat ∧ byt l (p + 1) = c.toNat := by
  obtain ⟨a, h1, h2⟩ := drop_at (show p < l.length by omega)
  obtain ⟨c, h3, h4⟩ := drop_at h
  exact ⟨c, by rw [h1, h3]; rfl, by rw [h1]; exact h2, h4⟩
theorem pre_e (h : p + 1 < l.length) (ha : byt l p = 35) (hc : byt l (p + 1) = 101 ∨ byt l (p + 1) = 69) : preF k told false (l.drop p) = preF k told true (l.drop (p + 2)) := by
  obtain ⟨c, h1, h2, h3⟩ := two_at h
  rw [h1, show (l.drop p).headD 0 = 35 from UInt8.toNat.inj (h2.symm.trans ha)]
  refine preF_e ((e_or c).2 ?_)
  rw [h3] at hc
  exact hc.imp (fun h => UInt8.toNat.inj h) (fun h => UInt8.toNat.inj h)
theorem pre_e2 (h : p + 1 < l.length) (ha : byt l p = 35) (hc : byt l (p + 1) = 101 ∨ byt l (p + 1) = 69) : preF k told true (l.drop p) = none := by
  obtain ⟨c, h1, h2, h3⟩ := two_at h
  rw [h1, show (l.drop p).headD 0 = 35 from UInt8.toNat.inj (h2.symm.trans ha)]
  refine preF_no (by simp) ?_
  rw [h3] at hc
  rcases hc with hc | hc
  · rw [show c = 101 from UInt8.toNat.inj hc]; simp [radL]
  · rw [show c = 69 from UInt8.toNat.inj hc]; simp [radL]
/-- the radix of a letter given by its number -/
def radN (n : Nat) : Nat := radL (UInt8.ofNat n)
theorem pre_r (h : p + 1 < l.length) (ha : byt l p = 35) {n : Nat} (hc : byt l (p + 1) = n) (hq : radN n = q) (h0 : q ≠ 0) (he : n ≠ 101 ∧ n ≠ 69) : preF k false ex (l.drop p) = preF q true ex (l.drop (p + 2)) := by
  obtain ⟨c, h1, h2, h3⟩ := two_at h
  rw [h1, show (l.drop p).headD 0 = 35 from UInt8.toNat.inj (h2.symm.trans ha)]
  have hn : UInt8.ofNat n = c := by rw [← hc, h3]; simp
  unfold radN at hq
  rw [hn] at hq
  rw [preF_r (k := k) (ex := ex) ?_ (by rw [hq]; exact h0), hq]
  rw [e_or]
  rintro ⟨h | h, _⟩
  · exact he.1 (by rw [← hc, h3, h]; rfl)
  · exact he.2 (by rw [← hc, h3, h]; rfl)
theorem pre_no (h : p + 1 < l.length) (ha : byt l p = 35) {n : Nat} (hc : byt l (p + 1) = n) (hq : radN n = 0 ∨ told = true) (he : n ≠ 101 ∧ n ≠ 69) : preF k told ex (l.drop p) = none := by
  obtain ⟨c, h1, h2, h3⟩ := two_at h
  rw [h1, show (l.drop p).headD 0 = 35 from UInt8.toNat.inj (h2.symm.trans ha)]
  have hn : UInt8.ofNat n = c := by rw [← hc, h3]; simp
  unfold radN at hq
  rw [hn] at hq
  refine preF_no ?_ ?_
  · rw [e_or]
    rintro ⟨h | h, _⟩
    · exact he.1 (by rw [← hc, h3, h]; rfl)
    · exact he.2 (by rw [← hc, h3, h]; rfl)
  · rintro ⟨h5, h6⟩
    rcases hq with hq | hq
    · exact h5 hq
    · rw [h6] at hq; cases hq
theorem pre_end (h : p + 1 = l.length) (ha : byt l p = 35) : preF k told ex (l.drop p) = none := by
  obtain ⟨a, h1, h2⟩ := drop_at (show p < l.length by omega)
  rw [h1, List.drop_eq_nil_of_le (show l.length ≤ p + 1 by omega), show a = 35 from UInt8.toNat.inj (h2.symm.trans ha)]
  exact preF_one
theorem pre_stop (h : ¬ (p < l.length ∧ byt l p = 35)) : preF k told ex (l.drop p) = some (k, l.drop p) := by
  refine preF_stop fun hh => h ?_
  have hp : p < l.length := by
    rcases Nat.lt_or_ge p l.length with h3 | h3
    · exact h3
    · rw [List.drop_eq_nil_of_le h3] at hh; cases hh
  obtain ⟨a, h1, h2⟩ := drop_at hp
  rw [h1, List.head?_cons] at hh
  exact ⟨hp, by rw [h2, show a = 35 from Option.some.inj hh]; rfl⟩
/-- no letter that tells anything -/
theorem radN_no {n : Nat} (hn : n < 256) (h1 : n ≠ 98) (h2 : n ≠ 66) (h3 : n ≠ 111) (h4 : n ≠ 79) (h5 : n ≠ 100) (h6 : n ≠ 68) (h7 : n ≠ 120) (h8 : n ≠ 88) : radN n = 0 := by
  have h : ∀ m : Fin 256, radN m.val = 0 ∨ m.val ∈ [98, 66, 111, 79, 100, 68, 120, 88] := by decide +kernel
  rcases h ⟨n, hn⟩ with h | h
  · exact h
  · simp only [List.mem_cons, List.not_mem_nil, or_false] at h
    omega
end


set_option maxRecDepth 100000 in
set_option maxHeartbeats 4000000 in
theorem rread3_arg (s : ByteArray) (b : Int) (w : World) (h : ¬ (b = 2 ∨ b = 8 ∨ b = 10 ∨ b = 16)) : Calls Try.prog 6 #[.string s, .int .i64 b] w (RetNE w (rw0, rw0, 1)) := by
  have hr := fun w => rradix_any b w
  rw [decide_eq_false h] at hr
  have X := SB.new w [.bool false, .slice none 0 0, .slice none 0 0, .bool false, .slice none 0 0, .slice none 0 0] 26
  have B := bal w (.cells #[.bool false, .slice none 0 0, .slice none 0 0, .bool false, .slice none 0 0, .slice none 0 0] 26)
  clear h
  go_enter Try.func6, Try.ntmps6
  go_wp2_with fail
  refine (hr _).mono ?_; rintro e' w3 ⟨rfl, rfl⟩
  clear hr
  have hRC := X.rc (n := 6)
  have s6 := hRC.put6 (.bool false) (.slice none 0 0) (.slice none 0 0) (.bool false) (.slice none 0 0) (.slice none 0 0)
  have B6 := wr6_below (b := w.heap.size) B (Nat.le_refl _) (.bool false) (.slice none 0 0) (.slice none 0 0) (.bool false) (.slice none 0 0) (.slice none 0 0)
  go_wp2_with (refine wp_st6 rfl (.tmp 4) (.tmp 16) rfl _ rfl _ _ _ _ _ _ rfl hRC rfl rfl rfl rfl rfl rfl ?_)
  have r0' := s6.cell 0
  have r1' := s6.cell 1
  have r2' := s6.cell 2
  have r3' := s6.cell 3
  have r4' := s6.cell 4
  have r5' := s6.cell 5
  refine bodyPost_ret (v := .tuple #[.agg #[.bool false, .slice none 0 0, .slice none 0 0, .bool false, .slice none 0 0, .slice none 0 0], .int .i64 1]) (by simp [results, r0', r1', r2', r3', r4', r5', go_sem]) rfl ?_
  exact retNE_nil 1 B6

set_option maxRecDepth 100000 in
set_option maxHeartbeats 16000000 in
theorem rread3_core (s : ByteArray) (r : Nat) (w : World) (hr : rdOk r) (hs : s.size ≤ 140737488351232) : Calls Try.prog 6 #[.string s, .int .i64 (r : Int)] w (RetNE w (readF s.data.toList r)) := by
  have hrx := fun w => rradix_any (r : Int) w
  rw [decide_eq_true (show (r : Int) = 2 ∨ (r : Int) = 8 ∨ (r : Int) = 10 ∨ (r : Int) = 16 by unfold rdOk at hr; omega)] at hrx
  have hsl := s_len s
  have HSL := Lib.hid hsl
  clear hsl
  have hpo := preF_ok s.data.toList.length s.data.toList r
  have X := SB.new w [.bool false, .slice none 0 0, .slice none 0 0, .bool false, .slice none 0 0, .slice none 0 0] 26
  have B := bal w (.cells #[.bool false, .slice none 0 0, .slice none 0 0, .bool false, .slice none 0 0, .slice none 0 0] 26)
  obtain ⟨W1, hW1⟩ : ∃ W1, W1 = w.alloc (.cells #[.bool false, .slice none 0 0, .slice none 0 0, .bool false, .slice none 0 0, .slice none 0 0] 26) := ⟨_, rfl⟩
  rw [← hW1] at X B
  go_enter Try.func6, Try.ntmps6
  go_wp2_with fail
  rw [← hW1]
  clear hW1
  refine (hrx _).mono ?_; rintro e' w3 ⟨rfl, rfl⟩
  clear hrx
  go_wp2_with fail
  go_loopg [6, 7, 8, 1] s.size (fun gk s6 s7 s8 s1 wx => ∃ (p : Nat) (told ex : Bool) (k : Nat), p ≤ s.size ∧ s6 = .int .i64 (p : Int) ∧ s7 = .bool told ∧ s8 = .bool ex ∧ s1 = .int .i64 (k : Int) ∧ gk = s.size - p ∧ Hid (preF r false false s.data.toList = preF k told ex (s.data.toList.drop p)) ∧ W1 = wx)
  case atStart => exact ⟨0, false, false, r, Nat.zero_le _, rfl, rfl, rfl, rfl, rfl, by show _ = _; rw [List.drop_zero], rfl⟩
  case round =>
    obtain ⟨p, told, ex, k, hps, rfl, rfl, rfl, rfl, rfl, hp, hwx⟩ := hrel
    subst hwx
    by_cases h0 : p < s.size
    · have e1 := s_at h0
      have dp : (p : Int) < (s.size : Int) := by omega
      have dp0 : (0 : Int) ≤ (p : Int) := by omega
      by_cases ha : byt s.data.toList p = 35
      · have ta : ((byt s.data.toList p : Int) == 35) = true := by rw [ha]; rfl
        have hwr : IntKind.i64.wrap ((p : Int) + 1) = ((p + 1 : Nat) : Int) := (IntWalk.i64_in _ (by omega)).trans (by omega)
        have hwr2 : IntKind.i64.wrap ((p : Int) + 2) = ((p + 2 : Nat) : Int) := (IntWalk.i64_in _ (by omega)).trans (by omega)
        by_cases h1 : p + 1 = s.size
        · have te : ((p : Int) + 1 == (s.size : Int)) = true := beq_iff_eq.2 (by omega)
          have HE := Lib.hid (readF_pre (hp.out.trans (pre_end (by rw [HSL.out]; exact h1) ha)))
          clear ha hp h1
          have hRC := X.rc (n := 6)
          have s6 := hRC.put6 (.bool false) (.slice none 0 0) (.slice none 0 0) (.bool false) (.slice none 0 0) (.slice none 0 0)
          have B6 := wr6_below (b := w.heap.size) B (Nat.le_refl _) (.bool false) (.slice none 0 0) (.slice none 0 0) (.bool false) (.slice none 0 0) (.slice none 0 0)
          go_wp2_with (refine wp_st6 rfl (.tmp 4) (.tmp 32) rfl _ rfl _ _ _ _ _ _ rfl hRC rfl rfl rfl rfl rfl rfl ?_)
          have r0' := s6.cell 0
          have r1' := s6.cell 1
          have r2' := s6.cell 2
          have r3' := s6.cell 3
          have r4' := s6.cell 4
          have r5' := s6.cell 5
          refine bodyPost_ret (v := .tuple #[.agg #[.bool false, .slice none 0 0, .slice none 0 0, .bool false, .slice none 0 0, .slice none 0 0], .int .i64 5]) (by simp [results, r0', r1', r2', r3', r4', r5', go_sem]) rfl ?_
          rw [HE.out]
          exact retNE_nil 5 B6
        · have te : ((p : Int) + 1 == (s.size : Int)) = false := beq_eq_false_iff_ne.2 (by omega)
          have hp1 : p + 1 < s.size := by omega
          have e2 := s_at hp1
          have h1l := Lib.hid (show p + 1 < s.data.toList.length by rw [HSL.out]; exact hp1)
          have dq : (p : Int) + 1 < (s.size : Int) := by omega
          replace ha := Lib.hid ha
          clear h1
          by_cases hc98 : byt s.data.toList (p + 1) = 98
          · rw [hc98] at e2
            cases told
            · have hst := Lib.hid (hp.out.trans (pre_r h1l.out ha.out hc98 (q := 2) rfl (by omega) (by omega)))
              clear hc98 hp
              go_wp2_with fail
              go_roundg (s.size - (p + 2))
              case measure => omega
              case rel => exact ⟨p + 2, true, ex, 2, by omega, by go_num, rfl, rfl, rfl, rfl, hst, rfl⟩
            · have HE := Lib.hid (readF_pre (hp.out.trans (pre_no h1l.out ha.out hc98 (.inr rfl) (by omega))))
              clear hc98 hp
              have hRC := X.rc (n := 6)
              have s6 := hRC.put6 (.bool false) (.slice none 0 0) (.slice none 0 0) (.bool false) (.slice none 0 0) (.slice none 0 0)
              have B6 := wr6_below (b := w.heap.size) B (Nat.le_refl _) (.bool false) (.slice none 0 0) (.slice none 0 0) (.bool false) (.slice none 0 0) (.slice none 0 0)
              go_wp2_with (refine wp_st6 rfl (.tmp 4) (.tmp 61) rfl _ rfl _ _ _ _ _ _ rfl hRC rfl rfl rfl rfl rfl rfl ?_)
              have r0' := s6.cell 0
              have r1' := s6.cell 1
              have r2' := s6.cell 2
              have r3' := s6.cell 3
              have r4' := s6.cell 4
              have r5' := s6.cell 5
              refine bodyPost_ret (v := .tuple #[.agg #[.bool false, .slice none 0 0, .slice none 0 0, .bool false, .slice none 0 0, .slice none 0 0], .int .i64 5]) (by simp [results, r0', r1', r2', r3', r4', r5', go_sem]) rfl ?_
              rw [HE.out]
              exact retNE_nil 5 B6
          · by_cases hc66 : byt s.data.toList (p + 1) = 66
            · rw [hc66] at e2
              cases told
              · have hst := Lib.hid (hp.out.trans (pre_r h1l.out ha.out hc66 (q := 2) rfl (by omega) (by omega)))
                clear hc66 hp
                go_wp2_with fail
                go_roundg (s.size - (p + 2))
                case measure => omega
                case rel => exact ⟨p + 2, true, ex, 2, by omega, by go_num, rfl, rfl, rfl, rfl, hst, rfl⟩
              · have HE := Lib.hid (readF_pre (hp.out.trans (pre_no h1l.out ha.out hc66 (.inr rfl) (by omega))))
                clear hc66 hp
                have hRC := X.rc (n := 6)
                have s6 := hRC.put6 (.bool false) (.slice none 0 0) (.slice none 0 0) (.bool false) (.slice none 0 0) (.slice none 0 0)
                have B6 := wr6_below (b := w.heap.size) B (Nat.le_refl _) (.bool false) (.slice none 0 0) (.slice none 0 0) (.bool false) (.slice none 0 0) (.slice none 0 0)
                go_wp2_with (refine wp_st6 rfl (.tmp 4) (.tmp 61) rfl _ rfl _ _ _ _ _ _ rfl hRC rfl rfl rfl rfl rfl rfl ?_)
                have r0' := s6.cell 0
                have r1' := s6.cell 1
                have r2' := s6.cell 2
                have r3' := s6.cell 3
                have r4' := s6.cell 4
                have r5' := s6.cell 5
                refine bodyPost_ret (v := .tuple #[.agg #[.bool false, .slice none 0 0, .slice none 0 0, .bool false, .slice none 0 0, .slice none 0 0], .int .i64 5]) (by simp [results, r0', r1', r2', r3', r4', r5', go_sem]) rfl ?_
                rw [HE.out]
                exact retNE_nil 5 B6
            · by_cases hc111 : byt s.data.toList (p + 1) = 111
              · rw [hc111] at e2
                cases told
                · have hst := Lib.hid (hp.out.trans (pre_r h1l.out ha.out hc111 (q := 8) rfl (by omega) (by omega)))
                  clear hc111 hp
                  go_wp2_with fail
                  go_roundg (s.size - (p + 2))
                  case measure => omega
                  case rel => exact ⟨p + 2, true, ex, 8, by omega, by go_num, rfl, rfl, rfl, rfl, hst, rfl⟩
                · have HE := Lib.hid (readF_pre (hp.out.trans (pre_no h1l.out ha.out hc111 (.inr rfl) (by omega))))
                  clear hc111 hp
                  have hRC := X.rc (n := 6)
                  have s6 := hRC.put6 (.bool false) (.slice none 0 0) (.slice none 0 0) (.bool false) (.slice none 0 0) (.slice none 0 0)
                  have B6 := wr6_below (b := w.heap.size) B (Nat.le_refl _) (.bool false) (.slice none 0 0) (.slice none 0 0) (.bool false) (.slice none 0 0) (.slice none 0 0)
                  go_wp2_with (refine wp_st6 rfl (.tmp 4) (.tmp 61) rfl _ rfl _ _ _ _ _ _ rfl hRC rfl rfl rfl rfl rfl rfl ?_)
                  have r0' := s6.cell 0
                  have r1' := s6.cell 1
                  have r2' := s6.cell 2
                  have r3' := s6.cell 3
                  have r4' := s6.cell 4
                  have r5' := s6.cell 5
                  refine bodyPost_ret (v := .tuple #[.agg #[.bool false, .slice none 0 0, .slice none 0 0, .bool false, .slice none 0 0, .slice none 0 0], .int .i64 5]) (by simp [results, r0', r1', r2', r3', r4', r5', go_sem]) rfl ?_
                  rw [HE.out]
                  exact retNE_nil 5 B6
              · by_cases hc79 : byt s.data.toList (p + 1) = 79
                · rw [hc79] at e2
                  cases told
                  · have hst := Lib.hid (hp.out.trans (pre_r h1l.out ha.out hc79 (q := 8) rfl (by omega) (by omega)))
                    clear hc79 hp
                    go_wp2_with fail
                    go_roundg (s.size - (p + 2))
                    case measure => omega
                    case rel => exact ⟨p + 2, true, ex, 8, by omega, by go_num, rfl, rfl, rfl, rfl, hst, rfl⟩
                  · have HE := Lib.hid (readF_pre (hp.out.trans (pre_no h1l.out ha.out hc79 (.inr rfl) (by omega))))
                    clear hc79 hp
                    have hRC := X.rc (n := 6)
                    have s6 := hRC.put6 (.bool false) (.slice none 0 0) (.slice none 0 0) (.bool false) (.slice none 0 0) (.slice none 0 0)
                    have B6 := wr6_below (b := w.heap.size) B (Nat.le_refl _) (.bool false) (.slice none 0 0) (.slice none 0 0) (.bool false) (.slice none 0 0) (.slice none 0 0)
                    go_wp2_with (refine wp_st6 rfl (.tmp 4) (.tmp 61) rfl _ rfl _ _ _ _ _ _ rfl hRC rfl rfl rfl rfl rfl rfl ?_)
                    have r0' := s6.cell 0
                    have r1' := s6.cell 1
                    have r2' := s6.cell 2
                    have r3' := s6.cell 3
                    have r4' := s6.cell 4
                    have r5' := s6.cell 5
                    refine bodyPost_ret (v := .tuple #[.agg #[.bool false, .slice none 0 0, .slice none 0 0, .bool false, .slice none 0 0, .slice none 0 0], .int .i64 5]) (by simp [results, r0', r1', r2', r3', r4', r5', go_sem]) rfl ?_
                    rw [HE.out]
                    exact retNE_nil 5 B6
                · by_cases hc100 : byt s.data.toList (p + 1) = 100
                  · rw [hc100] at e2
                    cases told
                    · have hst := Lib.hid (hp.out.trans (pre_r h1l.out ha.out hc100 (q := 10) rfl (by omega) (by omega)))
                      clear hc100 hp
                      go_wp2_with fail
                      go_roundg (s.size - (p + 2))
                      case measure => omega
                      case rel => exact ⟨p + 2, true, ex, 10, by omega, by go_num, rfl, rfl, rfl, rfl, hst, rfl⟩
                    · have HE := Lib.hid (readF_pre (hp.out.trans (pre_no h1l.out ha.out hc100 (.inr rfl) (by omega))))
                      clear hc100 hp
                      have hRC := X.rc (n := 6)
                      have s6 := hRC.put6 (.bool false) (.slice none 0 0) (.slice none 0 0) (.bool false) (.slice none 0 0) (.slice none 0 0)
                      have B6 := wr6_below (b := w.heap.size) B (Nat.le_refl _) (.bool false) (.slice none 0 0) (.slice none 0 0) (.bool false) (.slice none 0 0) (.slice none 0 0)
                      go_wp2_with (refine wp_st6 rfl (.tmp 4) (.tmp 61) rfl _ rfl _ _ _ _ _ _ rfl hRC rfl rfl rfl rfl rfl rfl ?_)
                      have r0' := s6.cell 0
                      have r1' := s6.cell 1
                      have r2' := s6.cell 2
                      have r3' := s6.cell 3
                      have r4' := s6.cell 4
                      have r5' := s6.cell 5
                      refine bodyPost_ret (v := .tuple #[.agg #[.bool false, .slice none 0 0, .slice none 0 0, .bool false, .slice none 0 0, .slice none 0 0], .int .i64 5]) (by simp [results, r0', r1', r2', r3', r4', r5', go_sem]) rfl ?_
                      rw [HE.out]
                      exact retNE_nil 5 B6
                  · by_cases hc68 : byt s.data.toList (p + 1) = 68
                    · rw [hc68] at e2
                      cases told
                      · have hst := Lib.hid (hp.out.trans (pre_r h1l.out ha.out hc68 (q := 10) rfl (by omega) (by omega)))
                        clear hc68 hp
                        go_wp2_with fail
                        go_roundg (s.size - (p + 2))
                        case measure => omega
                        case rel => exact ⟨p + 2, true, ex, 10, by omega, by go_num, rfl, rfl, rfl, rfl, hst, rfl⟩
                      · have HE := Lib.hid (readF_pre (hp.out.trans (pre_no h1l.out ha.out hc68 (.inr rfl) (by omega))))
                        clear hc68 hp
                        have hRC := X.rc (n := 6)
                        have s6 := hRC.put6 (.bool false) (.slice none 0 0) (.slice none 0 0) (.bool false) (.slice none 0 0) (.slice none 0 0)
                        have B6 := wr6_below (b := w.heap.size) B (Nat.le_refl _) (.bool false) (.slice none 0 0) (.slice none 0 0) (.bool false) (.slice none 0 0) (.slice none 0 0)
                        go_wp2_with (refine wp_st6 rfl (.tmp 4) (.tmp 61) rfl _ rfl _ _ _ _ _ _ rfl hRC rfl rfl rfl rfl rfl rfl ?_)
                        have r0' := s6.cell 0
                        have r1' := s6.cell 1
                        have r2' := s6.cell 2
                        have r3' := s6.cell 3
                        have r4' := s6.cell 4
                        have r5' := s6.cell 5
                        refine bodyPost_ret (v := .tuple #[.agg #[.bool false, .slice none 0 0, .slice none 0 0, .bool false, .slice none 0 0, .slice none 0 0], .int .i64 5]) (by simp [results, r0', r1', r2', r3', r4', r5', go_sem]) rfl ?_
                        rw [HE.out]
                        exact retNE_nil 5 B6
                    · by_cases hc120 : byt s.data.toList (p + 1) = 120
                      · rw [hc120] at e2
                        cases told
                        · have hst := Lib.hid (hp.out.trans (pre_r h1l.out ha.out hc120 (q := 16) rfl (by omega) (by omega)))
                          clear hc120 hp
                          go_wp2_with fail
                          go_roundg (s.size - (p + 2))
                          case measure => omega
                          case rel => exact ⟨p + 2, true, ex, 16, by omega, by go_num, rfl, rfl, rfl, rfl, hst, rfl⟩
                        · have HE := Lib.hid (readF_pre (hp.out.trans (pre_no h1l.out ha.out hc120 (.inr rfl) (by omega))))
                          clear hc120 hp
                          have hRC := X.rc (n := 6)
                          have s6 := hRC.put6 (.bool false) (.slice none 0 0) (.slice none 0 0) (.bool false) (.slice none 0 0) (.slice none 0 0)
                          have B6 := wr6_below (b := w.heap.size) B (Nat.le_refl _) (.bool false) (.slice none 0 0) (.slice none 0 0) (.bool false) (.slice none 0 0) (.slice none 0 0)
                          go_wp2_with (refine wp_st6 rfl (.tmp 4) (.tmp 61) rfl _ rfl _ _ _ _ _ _ rfl hRC rfl rfl rfl rfl rfl rfl ?_)
                          have r0' := s6.cell 0
                          have r1' := s6.cell 1
                          have r2' := s6.cell 2
                          have r3' := s6.cell 3
                          have r4' := s6.cell 4
                          have r5' := s6.cell 5
                          refine bodyPost_ret (v := .tuple #[.agg #[.bool false, .slice none 0 0, .slice none 0 0, .bool false, .slice none 0 0, .slice none 0 0], .int .i64 5]) (by simp [results, r0', r1', r2', r3', r4', r5', go_sem]) rfl ?_
                          rw [HE.out]
                          exact retNE_nil 5 B6
                      · by_cases hc88 : byt s.data.toList (p + 1) = 88
                        · rw [hc88] at e2
                          cases told
                          · have hst := Lib.hid (hp.out.trans (pre_r h1l.out ha.out hc88 (q := 16) rfl (by omega) (by omega)))
                            clear hc88 hp
                            go_wp2_with fail
                            go_roundg (s.size - (p + 2))
                            case measure => omega
                            case rel => exact ⟨p + 2, true, ex, 16, by omega, by go_num, rfl, rfl, rfl, rfl, hst, rfl⟩
                          · have HE := Lib.hid (readF_pre (hp.out.trans (pre_no h1l.out ha.out hc88 (.inr rfl) (by omega))))
                            clear hc88 hp
                            have hRC := X.rc (n := 6)
                            have s6 := hRC.put6 (.bool false) (.slice none 0 0) (.slice none 0 0) (.bool false) (.slice none 0 0) (.slice none 0 0)
                            have B6 := wr6_below (b := w.heap.size) B (Nat.le_refl _) (.bool false) (.slice none 0 0) (.slice none 0 0) (.bool false) (.slice none 0 0) (.slice none 0 0)
                            go_wp2_with (refine wp_st6 rfl (.tmp 4) (.tmp 61) rfl _ rfl _ _ _ _ _ _ rfl hRC rfl rfl rfl rfl rfl rfl ?_)
                            have r0' := s6.cell 0
                            have r1' := s6.cell 1
                            have r2' := s6.cell 2
                            have r3' := s6.cell 3
                            have r4' := s6.cell 4
                            have r5' := s6.cell 5
                            refine bodyPost_ret (v := .tuple #[.agg #[.bool false, .slice none 0 0, .slice none 0 0, .bool false, .slice none 0 0, .slice none 0 0], .int .i64 5]) (by simp [results, r0', r1', r2', r3', r4', r5', go_sem]) rfl ?_
                            rw [HE.out]
                            exact retNE_nil 5 B6
                        · by_cases hc101 : byt s.data.toList (p + 1) = 101
                          · rw [hc101] at e2
                            cases ex
                            · have hst := Lib.hid (hp.out.trans (pre_e h1l.out ha.out (.inl hc101)))
                              clear hc101 hp
                              go_wp2_with fail
                              go_roundg (s.size - (p + 2))
                              case measure => omega
                              case rel => exact ⟨p + 2, told, true, k, by omega, by go_num, rfl, rfl, rfl, rfl, hst, rfl⟩
                            · have HE := Lib.hid (readF_pre (hp.out.trans (pre_e2 h1l.out ha.out (.inl hc101))))
                              clear hc101 hp
                              have hRC := X.rc (n := 6)
                              have s6 := hRC.put6 (.bool false) (.slice none 0 0) (.slice none 0 0) (.bool false) (.slice none 0 0) (.slice none 0 0)
                              have B6 := wr6_below (b := w.heap.size) B (Nat.le_refl _) (.bool false) (.slice none 0 0) (.slice none 0 0) (.bool false) (.slice none 0 0) (.slice none 0 0)
                              go_wp2_with (refine wp_st6 rfl (.tmp 4) (.tmp 53) rfl _ rfl _ _ _ _ _ _ rfl hRC rfl rfl rfl rfl rfl rfl ?_)
                              have r0' := s6.cell 0
                              have r1' := s6.cell 1
                              have r2' := s6.cell 2
                              have r3' := s6.cell 3
                              have r4' := s6.cell 4
                              have r5' := s6.cell 5
                              refine bodyPost_ret (v := .tuple #[.agg #[.bool false, .slice none 0 0, .slice none 0 0, .bool false, .slice none 0 0, .slice none 0 0], .int .i64 5]) (by simp [results, r0', r1', r2', r3', r4', r5', go_sem]) rfl ?_
                              rw [HE.out]
                              exact retNE_nil 5 B6
                          · by_cases hc69 : byt s.data.toList (p + 1) = 69
                            · rw [hc69] at e2
                              cases ex
                              · have hst := Lib.hid (hp.out.trans (pre_e h1l.out ha.out (.inr hc69)))
                                clear hc69 hp
                                go_wp2_with fail
                                go_roundg (s.size - (p + 2))
                                case measure => omega
                                case rel => exact ⟨p + 2, told, true, k, by omega, by go_num, rfl, rfl, rfl, rfl, hst, rfl⟩
                              · have HE := Lib.hid (readF_pre (hp.out.trans (pre_e2 h1l.out ha.out (.inr hc69))))
                                clear hc69 hp
                                have hRC := X.rc (n := 6)
                                have s6 := hRC.put6 (.bool false) (.slice none 0 0) (.slice none 0 0) (.bool false) (.slice none 0 0) (.slice none 0 0)
                                have B6 := wr6_below (b := w.heap.size) B (Nat.le_refl _) (.bool false) (.slice none 0 0) (.slice none 0 0) (.bool false) (.slice none 0 0) (.slice none 0 0)
                                go_wp2_with (refine wp_st6 rfl (.tmp 4) (.tmp 53) rfl _ rfl _ _ _ _ _ _ rfl hRC rfl rfl rfl rfl rfl rfl ?_)
                                have r0' := s6.cell 0
                                have r1' := s6.cell 1
                                have r2' := s6.cell 2
                                have r3' := s6.cell 3
                                have r4' := s6.cell 4
                                have r5' := s6.cell 5
                                refine bodyPost_ret (v := .tuple #[.agg #[.bool false, .slice none 0 0, .slice none 0 0, .bool false, .slice none 0 0, .slice none 0 0], .int .i64 5]) (by simp [results, r0', r1', r2', r3', r4', r5', go_sem]) rfl ?_
                                rw [HE.out]
                                exact retNE_nil 5 B6
                            · have t98 : ((byt s.data.toList (p + 1) : Int) == 98) = false := beq_eq_false_iff_ne.2 (by omega)
                              have t66 : ((byt s.data.toList (p + 1) : Int) == 66) = false := beq_eq_false_iff_ne.2 (by omega)
                              have t111 : ((byt s.data.toList (p + 1) : Int) == 111) = false := beq_eq_false_iff_ne.2 (by omega)
                              have t79 : ((byt s.data.toList (p + 1) : Int) == 79) = false := beq_eq_false_iff_ne.2 (by omega)
                              have t100 : ((byt s.data.toList (p + 1) : Int) == 100) = false := beq_eq_false_iff_ne.2 (by omega)
                              have t68 : ((byt s.data.toList (p + 1) : Int) == 68) = false := beq_eq_false_iff_ne.2 (by omega)
                              have t120 : ((byt s.data.toList (p + 1) : Int) == 120) = false := beq_eq_false_iff_ne.2 (by omega)
                              have t88 : ((byt s.data.toList (p + 1) : Int) == 88) = false := beq_eq_false_iff_ne.2 (by omega)
                              have t101 : ((byt s.data.toList (p + 1) : Int) == 101) = false := beq_eq_false_iff_ne.2 (by omega)
                              have t69 : ((byt s.data.toList (p + 1) : Int) == 69) = false := beq_eq_false_iff_ne.2 (by omega)
                              have HE := Lib.hid (readF_pre (hp.out.trans (pre_no h1l.out ha.out rfl (.inl (radN_no (byt_lt _ _) hc98 hc66 hc111 hc79 hc100 hc68 hc120 hc88)) ⟨hc101, hc69⟩)))
                              clear hc98 hc66 hc111 hc79 hc100 hc68 hc120 hc88 hc101 hc69 hp
                              have hRC := X.rc (n := 6)
                              have s6 := hRC.put6 (.bool false) (.slice none 0 0) (.slice none 0 0) (.bool false) (.slice none 0 0) (.slice none 0 0)
                              have B6 := wr6_below (b := w.heap.size) B (Nat.le_refl _) (.bool false) (.slice none 0 0) (.slice none 0 0) (.bool false) (.slice none 0 0) (.slice none 0 0)
                              go_wp2_with (refine wp_st6 rfl (.tmp 4) (.tmp 61) rfl _ rfl _ _ _ _ _ _ rfl hRC rfl rfl rfl rfl rfl rfl ?_)
                              have r0' := s6.cell 0
                              have r1' := s6.cell 1
                              have r2' := s6.cell 2
                              have r3' := s6.cell 3
                              have r4' := s6.cell 4
                              have r5' := s6.cell 5
                              refine bodyPost_ret (v := .tuple #[.agg #[.bool false, .slice none 0 0, .slice none 0 0, .bool false, .slice none 0 0, .slice none 0 0], .int .i64 5]) (by simp [results, r0', r1', r2', r3', r4', r5', go_sem]) rfl ?_
                              rw [HE.out]
                              exact retNE_nil 5 B6
      · have ta : ((byt s.data.toList p : Int) == 35) = false := beq_eq_false_iff_ne.2 (by omega)
        replace ha := Lib.hid ha
        have hpf := hp.out.trans (pre_stop (fun h => ha.out h.2))
        have hk := (hpo _ _ _ _ (Nat.le_refl _) hr hpf).1.le
        have hq := rbody_any (s.extract p s.size) k W1 (by rw [ByteArray.size_extract]; omega) hk.1 (by omega)
        rw [ext_drop] at hq
        have hps : (p : Int) ≤ (s.size : Int) := by omega
        have hp0 : (0 : Int) ≤ (p : Int) := by omega
        replace hpf := Lib.hid hpf
        clear hp hk
        cases hb : bodyR (isDr k) (rdr k) mkr (rwq 0) (s.data.toList.drop p) with
        | none =>
          rw [hb] at hq
          have HE := Lib.hid (readF_no hpf.out hb)
          clear hb
          go_wp2_with fail
          refine hq.mono ?_; rintro e' w3 ⟨rfl, B3⟩
          clear hq
          have Bc := bal w3 (.cells #[.bool false, .slice none 0 0, .slice none 0 0, .bool false, .slice none 0 0, .slice none 0 0] 26)
          replace X := (X.nx B3).nx Bc
          replace B := bt (bt B B3) Bc
          clear B3 Bc
          have hRC := X.rc (n := 6)
          have s6 := hRC.put6 (.bool false) (.slice none 0 0) (.slice none 0 0) (.bool false) (.slice none 0 0) (.slice none 0 0)
          have B6 := wr6_below (b := w.heap.size) B (Nat.le_refl _) (.bool false) (.slice none 0 0) (.slice none 0 0) (.bool false) (.slice none 0 0) (.slice none 0 0)
          go_wp2_with (refine wp_st6 rfl (.tmp 4) (.tmp 76) rfl _ rfl _ _ _ _ _ _ rfl hRC rfl rfl rfl rfl rfl rfl ?_)
          have r0' := s6.cell 0
          have r1' := s6.cell 1
          have r2' := s6.cell 2
          have r3' := s6.cell 3
          have r4' := s6.cell 4
          have r5' := s6.cell 5
          refine bodyPost_ret (v := .tuple #[.agg #[.bool false, .slice none 0 0, .slice none 0 0, .bool false, .slice none 0 0, .slice none 0 0], .int .i64 5]) (by simp [results, r0', r1', r2', r3', r4', r5', go_sem]) rfl ?_
          rw [HE.out]
          exact retNE_nil 5 B6
        | some q =>
          obtain ⟨re, im, e⟩ := q
          rw [hb] at hq
          replace hb := Lib.hid hb
          go_wp2_with fail
          refine hq.mono ?_; rintro e' w3 ⟨A1, c1, D1, d1, A2, c2, D2, d2, rfl, O1, O2, O3, O4, B3⟩
          clear hq
          have Bc := bal w3 (.cells #[.bool re.s, .slice A1 re.a.length c1, .slice D1 re.b.length d1, .bool im.s, .slice A2 im.a.length c2, .slice D2 im.b.length d2] 26)
          have X7 := SB.new w3 [.bool re.s, .slice A1 re.a.length c1, .slice D1 re.b.length d1, .bool im.s, .slice A2 im.a.length c2, .slice D2 im.b.length d2] 26
          have hz3 : w.heap.size < w3.heap.size := (X.nx B3).lt
          have hz1 : w.heap.size < W1.heap.size := X.lt
          replace X := (X.nx B3).nx Bc
          replace B := bt (bt B B3) Bc
          replace O1 := O1.below Bc (Nat.le_refl _)
          replace O2 := O2.below Bc (Nat.le_refl _)
          replace O3 := O3.below Bc (Nat.le_refl _)
          replace O4 := O4.below Bc (Nat.le_refl _)
          clear B3 Bc
          by_cases hlong : 16384 < s.size
          · have dl : (16384 : Int) < (s.size : Int) := by omega
            have HE := Lib.hid (readF_long hpf.out hb.out (by rw [s_len]; exact hlong))
            clear hlong
            have hRC := X.rc (n := 6)
            have s6 := hRC.put6 (.bool false) (.slice none 0 0) (.slice none 0 0) (.bool false) (.slice none 0 0) (.slice none 0 0)
            have B6 := wr6_below (b := w.heap.size) B (Nat.le_refl _) (.bool false) (.slice none 0 0) (.slice none 0 0) (.bool false) (.slice none 0 0) (.slice none 0 0)
            go_wp2_with (refine wp_st6 rfl (.tmp 4) (.tmp 80) rfl _ rfl _ _ _ _ _ _ rfl hRC rfl rfl rfl rfl rfl rfl ?_)
            have r0' := s6.cell 0
            have r1' := s6.cell 1
            have r2' := s6.cell 2
            have r3' := s6.cell 3
            have r4' := s6.cell 4
            have r5' := s6.cell 5
            refine bodyPost_ret (v := .tuple #[.agg #[.bool false, .slice none 0 0, .slice none 0 0, .bool false, .slice none 0 0, .slice none 0 0], .int .i64 4]) (by simp [results, r0', r1', r2', r3', r4', r5', go_sem]) rfl ?_
            rw [HE.out]
            exact retNE_nil 4 B6
          · have dl : decide ((16384 : Int) < (s.size : Int)) = false := decide_eq_false (by omega)
            have hnl : ¬ 16384 < s.data.toList.length := by rw [s_len]; exact hlong
            clear hlong
            by_cases he : e = 0
            · subst he
              have HE := Lib.hid (readF_ok hpf.out hb.out hnl)
              clear hb hnl
              have a0 := X7.cell 0
              have a1 := X7.cell 1
              have a2 := X7.cell 2
              have a3 := X7.cell 3
              have a4 := X7.cell 4
              have a5 := X7.cell 5
              have hRC := X.rc (n := 6)
              have s6 := hRC.put6 (.bool re.s) (.slice A1 re.a.length c1) (.slice D1 re.b.length d1) (.bool im.s) (.slice A2 im.a.length c2) (.slice D2 im.b.length d2)
              have B6 := wr6_below (b := w.heap.size) B (Nat.le_refl _) (.bool re.s) (.slice A1 re.a.length c1) (.slice D1 re.b.length d1) (.bool im.s) (.slice A2 im.a.length c2) (.slice D2 im.b.length d2)
              have P1 := O1.put6 (b := w.heap.size) hz1 (.bool re.s) (.slice A1 re.a.length c1) (.slice D1 re.b.length d1) (.bool im.s) (.slice A2 im.a.length c2) (.slice D2 im.b.length d2)
              have P2 := O2.put6 (b := w.heap.size) hz1 (.bool re.s) (.slice A1 re.a.length c1) (.slice D1 re.b.length d1) (.bool im.s) (.slice A2 im.a.length c2) (.slice D2 im.b.length d2)
              have P3 := O3.put6 (b := w.heap.size) hz1 (.bool re.s) (.slice A1 re.a.length c1) (.slice D1 re.b.length d1) (.bool im.s) (.slice A2 im.a.length c2) (.slice D2 im.b.length d2)
              have P4 := O4.put6 (b := w.heap.size) hz1 (.bool re.s) (.slice A1 re.a.length c1) (.slice D1 re.b.length d1) (.bool im.s) (.slice A2 im.a.length c2) (.slice D2 im.b.length d2)
              clear X7
              go_wp2_with (refine wp_st6 rfl (.tmp 4) (.tmp 85) rfl _ rfl _ _ _ _ _ _ rfl hRC rfl rfl rfl rfl rfl rfl ?_)
              clear a0 a1 a2 a3 a4 a5
              have r0' := s6.cell 0
              have r1' := s6.cell 1
              have r2' := s6.cell 2
              have r3' := s6.cell 3
              have r4' := s6.cell 4
              have r5' := s6.cell 5
              refine bodyPost_ret (v := .tuple #[.agg #[.bool re.s, .slice A1 re.a.length c1, .slice D1 re.b.length d1, .bool im.s, .slice A2 im.a.length c2, .slice D2 im.b.length d2], .int .i64 0]) (by simp [results, r0', r1', r2', r3', r4', r5', go_sem]) rfl ?_
              rw [HE.out]
              exact ⟨A1, c1, D1, d1, A2, c2, D2, d2, rfl, P1.base_le (Nat.le_of_lt hz1), P2.base_le (Nat.le_of_lt hz1), P3.base_le (Nat.le_of_lt hz1), P4.base_le (Nat.le_of_lt hz1), B6⟩
            · have te : (e != 0) = true := bne_iff_ne.2 he
              have HE := Lib.hid (readF_bad hpf.out hb.out hnl he)
              clear he hnl
              have hRC := X.rc (n := 6)
              have s6 := hRC.put6 (.bool false) (.slice none 0 0) (.slice none 0 0) (.bool false) (.slice none 0 0) (.slice none 0 0)
              have B6 := wr6_below (b := w.heap.size) B (Nat.le_refl _) (.bool false) (.slice none 0 0) (.slice none 0 0) (.bool false) (.slice none 0 0) (.slice none 0 0)
              go_wp2_with (refine wp_st6 rfl (.tmp 4) (.tmp 83) rfl _ rfl _ _ _ _ _ _ rfl hRC rfl rfl rfl rfl rfl rfl ?_)
              have r0' := s6.cell 0
              have r1' := s6.cell 1
              have r2' := s6.cell 2
              have r3' := s6.cell 3
              have r4' := s6.cell 4
              have r5' := s6.cell 5
              refine bodyPost_ret (v := .tuple #[.agg #[.bool false, .slice none 0 0, .slice none 0 0, .bool false, .slice none 0 0, .slice none 0 0], .int .i64 e]) (by simp [results, r0', r1', r2', r3', r4', r5', go_sem]) rfl ?_
              rw [HE.out]
              exact retNE_nil e B6
    · have dp : decide ((p : Int) < (s.size : Int)) = false := decide_eq_false (by omega)
      replace h0 := Lib.hid h0
      have hpf := hp.out.trans (pre_stop (fun h => h0.out (by have := h.1; have h3 := HSL.out; omega)))
      have hk := (hpo _ _ _ _ (Nat.le_refl _) hr hpf).1.le
      have hq := rbody_any (s.extract p s.size) k W1 (by rw [ByteArray.size_extract]; omega) hk.1 (by omega)
      rw [ext_drop] at hq
      have hps : (p : Int) ≤ (s.size : Int) := by omega
      have hp0 : (0 : Int) ≤ (p : Int) := by omega
      replace hpf := Lib.hid hpf
      clear hp hk
      cases hb : bodyR (isDr k) (rdr k) mkr (rwq 0) (s.data.toList.drop p) with
      | none =>
        rw [hb] at hq
        have HE := Lib.hid (readF_no hpf.out hb)
        clear hb
        go_wp2_with fail
        refine hq.mono ?_; rintro e' w3 ⟨rfl, B3⟩
        clear hq
        have Bc := bal w3 (.cells #[.bool false, .slice none 0 0, .slice none 0 0, .bool false, .slice none 0 0, .slice none 0 0] 26)
        replace X := (X.nx B3).nx Bc
        replace B := bt (bt B B3) Bc
        clear B3 Bc
        have hRC := X.rc (n := 6)
        have s6 := hRC.put6 (.bool false) (.slice none 0 0) (.slice none 0 0) (.bool false) (.slice none 0 0) (.slice none 0 0)
        have B6 := wr6_below (b := w.heap.size) B (Nat.le_refl _) (.bool false) (.slice none 0 0) (.slice none 0 0) (.bool false) (.slice none 0 0) (.slice none 0 0)
        go_wp2_with (refine wp_st6 rfl (.tmp 4) (.tmp 76) rfl _ rfl _ _ _ _ _ _ rfl hRC rfl rfl rfl rfl rfl rfl ?_)
        have r0' := s6.cell 0
        have r1' := s6.cell 1
        have r2' := s6.cell 2
        have r3' := s6.cell 3
        have r4' := s6.cell 4
        have r5' := s6.cell 5
        refine bodyPost_ret (v := .tuple #[.agg #[.bool false, .slice none 0 0, .slice none 0 0, .bool false, .slice none 0 0, .slice none 0 0], .int .i64 5]) (by simp [results, r0', r1', r2', r3', r4', r5', go_sem]) rfl ?_
        rw [HE.out]
        exact retNE_nil 5 B6
      | some q =>
        obtain ⟨re, im, e⟩ := q
        rw [hb] at hq
        replace hb := Lib.hid hb
        go_wp2_with fail
        refine hq.mono ?_; rintro e' w3 ⟨A1, c1, D1, d1, A2, c2, D2, d2, rfl, O1, O2, O3, O4, B3⟩
        clear hq
        have Bc := bal w3 (.cells #[.bool re.s, .slice A1 re.a.length c1, .slice D1 re.b.length d1, .bool im.s, .slice A2 im.a.length c2, .slice D2 im.b.length d2] 26)
        have X7 := SB.new w3 [.bool re.s, .slice A1 re.a.length c1, .slice D1 re.b.length d1, .bool im.s, .slice A2 im.a.length c2, .slice D2 im.b.length d2] 26
        have hz3 : w.heap.size < w3.heap.size := (X.nx B3).lt
        have hz1 : w.heap.size < W1.heap.size := X.lt
        replace X := (X.nx B3).nx Bc
        replace B := bt (bt B B3) Bc
        replace O1 := O1.below Bc (Nat.le_refl _)
        replace O2 := O2.below Bc (Nat.le_refl _)
        replace O3 := O3.below Bc (Nat.le_refl _)
        replace O4 := O4.below Bc (Nat.le_refl _)
        clear B3 Bc
        by_cases hlong : 16384 < s.size
        · have dl : (16384 : Int) < (s.size : Int) := by omega
          have HE := Lib.hid (readF_long hpf.out hb.out (by rw [s_len]; exact hlong))
          clear hlong
          have hRC := X.rc (n := 6)
          have s6 := hRC.put6 (.bool false) (.slice none 0 0) (.slice none 0 0) (.bool false) (.slice none 0 0) (.slice none 0 0)
          have B6 := wr6_below (b := w.heap.size) B (Nat.le_refl _) (.bool false) (.slice none 0 0) (.slice none 0 0) (.bool false) (.slice none 0 0) (.slice none 0 0)
          go_wp2_with (refine wp_st6 rfl (.tmp 4) (.tmp 80) rfl _ rfl _ _ _ _ _ _ rfl hRC rfl rfl rfl rfl rfl rfl ?_)
          have r0' := s6.cell 0
          have r1' := s6.cell 1
          have r2' := s6.cell 2
          have r3' := s6.cell 3
          have r4' := s6.cell 4
          have r5' := s6.cell 5
          refine bodyPost_ret (v := .tuple #[.agg #[.bool false, .slice none 0 0, .slice none 0 0, .bool false, .slice none 0 0, .slice none 0 0], .int .i64 4]) (by simp [results, r0', r1', r2', r3', r4', r5', go_sem]) rfl ?_
          rw [HE.out]
          exact retNE_nil 4 B6
        · have dl : decide ((16384 : Int) < (s.size : Int)) = false := decide_eq_false (by omega)
          have hnl : ¬ 16384 < s.data.toList.length := by rw [s_len]; exact hlong
          clear hlong
          by_cases he : e = 0
          · subst he
            have HE := Lib.hid (readF_ok hpf.out hb.out hnl)
            clear hb hnl
            have a0 := X7.cell 0
            have a1 := X7.cell 1
            have a2 := X7.cell 2
            have a3 := X7.cell 3
            have a4 := X7.cell 4
            have a5 := X7.cell 5
            have hRC := X.rc (n := 6)
            have s6 := hRC.put6 (.bool re.s) (.slice A1 re.a.length c1) (.slice D1 re.b.length d1) (.bool im.s) (.slice A2 im.a.length c2) (.slice D2 im.b.length d2)
            have B6 := wr6_below (b := w.heap.size) B (Nat.le_refl _) (.bool re.s) (.slice A1 re.a.length c1) (.slice D1 re.b.length d1) (.bool im.s) (.slice A2 im.a.length c2) (.slice D2 im.b.length d2)
            have P1 := O1.put6 (b := w.heap.size) hz1 (.bool re.s) (.slice A1 re.a.length c1) (.slice D1 re.b.length d1) (.bool im.s) (.slice A2 im.a.length c2) (.slice D2 im.b.length d2)
            have P2 := O2.put6 (b := w.heap.size) hz1 (.bool re.s) (.slice A1 re.a.length c1) (.slice D1 re.b.length d1) (.bool im.s) (.slice A2 im.a.length c2) (.slice D2 im.b.length d2)
            have P3 := O3.put6 (b := w.heap.size) hz1 (.bool re.s) (.slice A1 re.a.length c1) (.slice D1 re.b.length d1) (.bool im.s) (.slice A2 im.a.length c2) (.slice D2 im.b.length d2)
            have P4 := O4.put6 (b := w.heap.size) hz1 (.bool re.s) (.slice A1 re.a.length c1) (.slice D1 re.b.length d1) (.bool im.s) (.slice A2 im.a.length c2) (.slice D2 im.b.length d2)
            clear X7
            go_wp2_with (refine wp_st6 rfl (.tmp 4) (.tmp 85) rfl _ rfl _ _ _ _ _ _ rfl hRC rfl rfl rfl rfl rfl rfl ?_)
            clear a0 a1 a2 a3 a4 a5
            have r0' := s6.cell 0
            have r1' := s6.cell 1
            have r2' := s6.cell 2
            have r3' := s6.cell 3
            have r4' := s6.cell 4
            have r5' := s6.cell 5
            refine bodyPost_ret (v := .tuple #[.agg #[.bool re.s, .slice A1 re.a.length c1, .slice D1 re.b.length d1, .bool im.s, .slice A2 im.a.length c2, .slice D2 im.b.length d2], .int .i64 0]) (by simp [results, r0', r1', r2', r3', r4', r5', go_sem]) rfl ?_
            rw [HE.out]
            exact ⟨A1, c1, D1, d1, A2, c2, D2, d2, rfl, P1.base_le (Nat.le_of_lt hz1), P2.base_le (Nat.le_of_lt hz1), P3.base_le (Nat.le_of_lt hz1), P4.base_le (Nat.le_of_lt hz1), B6⟩
          · have te : (e != 0) = true := bne_iff_ne.2 he
            have HE := Lib.hid (readF_bad hpf.out hb.out hnl he)
            clear he hnl
            have hRC := X.rc (n := 6)
            have s6 := hRC.put6 (.bool false) (.slice none 0 0) (.slice none 0 0) (.bool false) (.slice none 0 0) (.slice none 0 0)
            have B6 := wr6_below (b := w.heap.size) B (Nat.le_refl _) (.bool false) (.slice none 0 0) (.slice none 0 0) (.bool false) (.slice none 0 0) (.slice none 0 0)
            go_wp2_with (refine wp_st6 rfl (.tmp 4) (.tmp 83) rfl _ rfl _ _ _ _ _ _ rfl hRC rfl rfl rfl rfl rfl rfl ?_)
            have r0' := s6.cell 0
            have r1' := s6.cell 1
            have r2' := s6.cell 2
            have r3' := s6.cell 3
            have r4' := s6.cell 4
            have r5' := s6.cell 5
            refine bodyPost_ret (v := .tuple #[.agg #[.bool false, .slice none 0 0, .slice none 0 0, .bool false, .slice none 0 0, .slice none 0 0], .int .i64 e]) (by simp [results, r0', r1', r2', r3', r4', r5', go_sem]) rfl ?_
            rw [HE.out]
            exact retNE_nil e B6
theorem rread3_any (s : ByteArray) (b : Int) (w : World) (hs : s.size ≤ 140737488351232) : Calls Try.prog 6 #[.string s, .int .i64 b] w (RetNE w (readZF s.data.toList b)) := by
  unfold readZF
  by_cases h : b = 2 ∨ b = 8 ∨ b = 10 ∨ b = 16
  · rw [if_pos h]
    obtain ⟨r, rfl⟩ := Int.eq_ofNat_of_zero_le (show 0 ≤ b by omega)
    exact rread3_core s r w (by unfold rdOk; omega) hs
  · rw [if_neg h]
    exact rread3_arg s b w h
end Go.Proofs.Ytkjfpaommbjgbaa
