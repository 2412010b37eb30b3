/- The walk of the law NatTexts. -/
import Derived.Test.YtpknbgfekmdlfaaNatV
namespace Go.Proofs.Ytpknbgfekmdlfaa
open Go.RowKit

theorem textA_cases (a : List Nat) (b : Int) : (textA a b).2 ≠ 0 ∨ (soundB a = true ∧ 2 ≤ b ∧ b ≤ 36 ∧ textA a b = (txt b.toNat (val a), 0)) := by
  unfold textA
  cases hs : soundB a with
  | false => left; simp
  | true =>
    by_cases h : b < 2 ∨ b > 36
    · left; rw [if_pos rfl, if_pos h]; simp
    · right; rw [if_pos rfl, if_neg h]; exact ⟨rfl, by omega, by omega, rfl⟩
theorem read_text {a : List Nat} {b : Int} (hs : soundB a = true) (h1 : 2 ≤ b) (h2 : b ≤ 36) (hl : ¬ (txt b.toNat (val a)).length > 16384) : readA (txt b.toNat (val a)) b = (val a, 0) := by
  obtain ⟨r1, r2, r3⟩ := rdv_txt (b := b.toNat) (by omega) (by omega) (val a)
  have hok : okd b.toNat (txt b.toNat (val a)) = true := by
    unfold okd; rw [List.all_eq_true]; intro c hc; exact decide_eq_true (r2 c hc)
  simp only [soundB, decide_eq_true_eq] at hs
  unfold readA
  rw [if_neg (by omega), if_neg r3, readD_fit hok hl, r1]
  unfold fitA
  rw [← hs.2, if_pos hs.1]

set_option maxRecDepth 100000 in
set_option maxHeartbeats 4000000 in
theorem natTexts_walk (A : Option Addr) (c : Nat) (a : List Nat) (s : ByteArray) (b : Int) (w : World) (ha : RW w w.heap.size A c a) (hs : s.size ≤ 140737488351232) (hb : -9223372036854775808 ≤ b ∧ b ≤ 9223372036854775807) :
    Calls Try.prog 5 #[.slice A a.length c, .string s, .int .i64 b] w fun e w' => e = .returned (.bool true) ∧ Below w.heap.size w w' := by
  have hT := text_any A c _ a b w rfl ha
  have hT2 := fun w' h => rtext_any A c _ a b w' rfl h
  have hR := fun w' => read_any s b w' hs
  have hR2 := fun w' => rread_any s b w' hs
  have hcs := textA_cases a b
  have hrt : ∀ (hh : soundB a = true ∧ 2 ≤ b ∧ b ≤ 36 ∧ textA a b = (txt b.toNat (val a), 0)), _ := fun hh => @read_text a b hh.1 hh.2.1 hh.2.2.1
  generalize readA s.data.toList b = r at *
  obtain ⟨N, er⟩ := r
  rcases hcs with he | hh
  · generalize textA a b = t at *
    obtain ⟨T, et⟩ := t
    have he1 : (et != 0) = true := by simpa using he
    clear hrt hs he hb
    go_enter Try.func5, Try.ntmps5
    go_wp2_with fail
    refine hT.mono ?_; rintro e w1 ⟨rfl, B1⟩
    go_wp2_with fail
    refine (hT2 w1 (ha.step B1 B1.size)).mono ?_; rintro e w2 ⟨rfl, B2⟩
    go_wp2_with fail
    refine (hR w2).mono ?_; rintro e w3 ⟨A3, c3, rfl, O3, B3⟩
    go_wp2_with fail
    refine (hR2 w3).mono ?_; rintro e w4 ⟨A4, c4, rfl, O4, B4⟩
    go_wp2_with fail
    refine (awake_any w4).mono ?_; rintro e w5 ⟨rfl, B5⟩
    go_wp2_with fail
    have r3 := O3.rw.step (B4.trans (B5.mono B4.size)) (Nat.le_trans B4.size B5.size)
    have r4 := O4.rw.step B5 B5.size
    refine (same_eq A3 A4 c3 c4 _ _ (digs N) w5 rfl rfl r3 r4).mono ?_; rintro e w6 ⟨rfl, q, rfl⟩
    go_wp2_with fail
    go_ret
    have B02 := B1.trans (B2.mono B1.size)
    have B03 := B02.trans (B3.mono B02.size)
    have B04 := B03.trans (B4.mono B03.size)
    have B05 := B04.trans (B5.mono B04.size)
    exact ⟨rfl, bdN B05 q⟩
  · rw [hh.2.2.2] at hT hT2
    have hrt2 := hrt hh
    have hd : a = digs (val a) := by have h := hh.1; simp only [soundB, decide_eq_true_eq] at h; exact h.2
    have HD := Lib.hid hd
    clear hrt hs hb hd hh
    by_cases hl : (txt b.toNat (val a)).length > 16384
    · clear hrt2
      generalize txt b.toNat (val a) = T at *
      go_enter Try.func5, Try.ntmps5
      go_wp2_with fail
      refine hT.mono ?_; rintro e w1 ⟨rfl, B1⟩
      go_wp2_with fail
      refine (hT2 w1 (ha.step B1 B1.size)).mono ?_; rintro e w2 ⟨rfl, B2⟩
      go_wp2_with fail
      refine (hR w2).mono ?_; rintro e w3 ⟨A3, c3, rfl, O3, B3⟩
      go_wp2_with fail
      refine (hR2 w3).mono ?_; rintro e w4 ⟨A4, c4, rfl, O4, B4⟩
      go_wp2_with fail
      refine (awake_any w4).mono ?_; rintro e w5 ⟨rfl, B5⟩
      go_wp2_with fail
      have r3 := O3.rw.step (B4.trans (B5.mono B4.size)) (Nat.le_trans B4.size B5.size)
      have r4 := O4.rw.step B5 B5.size
      have B02 := B1.trans (B2.mono B1.size)
      have B03 := B02.trans (B3.mono B02.size)
      have B04 := B03.trans (B4.mono B03.size)
      have B05 := B04.trans (B5.mono B04.size)
      refine (same_eq A3 A4 c3 c4 _ _ (digs N) w5 rfl rfl r3 r4).mono ?_; rintro e w6 ⟨rfl, q, rfl⟩
      go_wp2_with fail
      go_ret
      exact ⟨rfl, bdN B05 q⟩
    · have hrd := fun w' => read_any ⟨(txt b.toNat (val a)).toArray⟩ b w' (by show (txt b.toNat (val a)).toArray.size ≤ _; rw [List.size_toArray]; omega)
      have e1 := hrt2 hl
      rw [show (⟨(txt b.toNat (val a)).toArray⟩ : ByteArray).data.toList = txt b.toNat (val a) from rfl, e1] at hrd
      have hl2 : (txt b.toNat (val a)).length ≤ 16384 := by omega
      clear hrt2 e1 hl
      generalize txt b.toNat (val a) = T at *
      go_enter Try.func5, Try.ntmps5
      go_wp2_with fail
      refine hT.mono ?_; rintro e w1 ⟨rfl, B1⟩
      go_wp2_with fail
      refine (hT2 w1 (ha.step B1 B1.size)).mono ?_; rintro e w2 ⟨rfl, B2⟩
      go_wp2_with fail
      refine (hR w2).mono ?_; rintro e w3 ⟨A3, c3, rfl, O3, B3⟩
      go_wp2_with fail
      refine (hR2 w3).mono ?_; rintro e w4 ⟨A4, c4, rfl, O4, B4⟩
      go_wp2_with fail
      refine (awake_any w4).mono ?_; rintro e w5 ⟨rfl, B5⟩
      go_wp2_with fail
      have r3 := O3.rw.step (B4.trans (B5.mono B4.size)) (Nat.le_trans B4.size B5.size)
      have r4 := O4.rw.step B5 B5.size
      have B02 := B1.trans (B2.mono B1.size)
      have B03 := B02.trans (B3.mono B02.size)
      have B04 := B03.trans (B4.mono B03.size)
      have B05 := B04.trans (B5.mono B04.size)
      refine (same_eq A3 A4 c3 c4 _ _ (digs N) w5 rfl rfl r3 r4).mono ?_; rintro e w6 ⟨rfl, q, rfl⟩
      go_wp2_with fail
      refine (hrd _).mono ?_; rintro e w7 ⟨A7, c7, rfl, O7, B7⟩
      go_wp2_with fail
      have BQ := bdN B05 q
      have B07 := BQ.trans (B7.mono BQ.size)
      have r7 := O7.rw
      rw [← HD.out] at r7
      have hl7 : (digs (val a)).length = a.length := by rw [← HD.out]
      refine (same_eq A7 A c7 c _ _ a w7 hl7 rfl r7 (ha.step B07 B07.size)).mono ?_; rintro e w8 ⟨rfl, q2, rfl⟩
      go_wp2_with fail
      go_ret
      exact ⟨rfl, bdN B07 q2⟩
end Go.Proofs.Ytpknbgfekmdlfaa
