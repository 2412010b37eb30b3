/- The walk of ExactTexts. -/
import Derived.Test.YtkjfpaommbjgbaaTxC
import Derived.Test.YtkjfpaommbjgbaaRdK
namespace Go.Proofs.Ytkjfpaommbjgbaa
open Go.RowKit

/-- what Text writes, Read reads back -/
theorem read_back {r i : Rw} {b : Int} (h : (textZ r i b).2 = 0) (hl : (textZ r i b).1.length ≤ 16384) : readZ (textZ r i b).1 b = (r, i, 0) := by
  cases hb : nB r i with
  | false => rw [textZ_bad b hb] at h; simp at h
  | true =>
    by_cases hc : b = 2 ∨ b = 8 ∨ b = 10 ∨ b = 16
    · obtain ⟨p, q, rfl, rfl, hp, hq⟩ := nB_rat hb
      obtain ⟨k, rfl⟩ := Int.eq_ofNat_of_zero_le (show 0 ≤ b by omega)
      have hk : rdOk k := by unfold rdOk; omega
      rw [textZ_ok hb hk, qv_rwq, qv_rwq] at hl ⊢
      unfold readZ
      rw [if_pos hc, Int.toNat_natCast]
      exact read_text hk hp hq hl
    · rw [textZ_arg hb hc] at h; simp at h
theorem sound_of_text {r i : Rw} {b : Int} (h : (textZ r i b).2 = 0) : sameB r i r i = true := by
  cases hb : nB r i with
  | false => rw [textZ_bad b hb] at h; simp at h
  | true =>
    unfold sameB
    rw [hb, fsB_iff.2 ⟨rfl, rfl, rfl⟩, fsB_iff.2 ⟨rfl, rfl, rfl⟩]
    rfl
set_option maxRecDepth 100000 in
set_option maxHeartbeats 16000000 in
theorem exactTexts_walk (V : Value) (r i : Rw) (b : Int) (w : World) (hV : VN w w.heap.size V r i) (_hb : -9223372036854775808 ≤ b ∧ b ≤ 9223372036854775807) :
    Calls Try.prog 4 #[V, .int .i64 b] w fun e w' => e = .returned (.bool true) ∧ Below w.heap.size w w' := by
  have h1 := fun V w' h => etext_any V r i b w' h
  have h2 := fun V w' h => rtext3_any V r i b w' h
  have hback := read_back (r := r) (i := i) (b := b)
  have hsame := sound_of_text (r := r) (i := i) (b := b)
  generalize textZ r i b = t at h1 h2 hback hsame
  obtain ⟨T, E⟩ := t
  dsimp only at hback hsame
  obtain ⟨xs, hxs⟩ : ∃ x : ByteArray, x = ⟨T.toArray⟩ := ⟨_, rfl⟩
  have hT : xs.data.toList = T := by rw [hxs]
  have g1 : RetT = fun w t e w' => e = .returned (.tuple #[.string ⟨t.1.toArray⟩, .int .i64 t.2]) ∧ Below w.heap.size w w' := rfl
  rw [g1] at h1 h2
  clear g1
  dsimp only at h1 h2
  rw [← hxs] at h1 h2
  have hTl : T.length = xs.size := by rw [← hT, s_len]
  rw [hTl] at hback
  have h3 := fun (h : xs.size ≤ 140737488351232) w => eread_any xs b w h
  rw [hT] at h3
  clear hxs hT hTl
  obtain ⟨A1a, c1a, D1a, d1a, A1b, c1b, D1b, d1b, rfl, p1, p2, p3, p4⟩ := hV
  have HX : VN w w.heap.size (.agg #[.bool r.s, .slice A1a r.a.length c1a, .slice D1a r.b.length d1a, .bool i.s, .slice A1b i.a.length c1b, .slice D1b i.b.length d1b]) r i := ⟨A1a, c1a, D1a, d1a, A1b, c1b, D1b, d1b, rfl, p1, p2, p3, p4⟩
  have B := bal w (.cells #[.bool r.s, .slice A1a r.a.length c1a, .slice D1a r.b.length d1a, .bool i.s, .slice A1b i.a.length c1b, .slice D1b i.b.length d1b] 26)
  have SX := SB.new w [.bool r.s, .slice A1a r.a.length c1a, .slice D1a r.b.length d1a, .bool i.s, .slice A1b i.a.length c1b, .slice D1b i.b.length d1b] 26
  replace HX := HX.st B
  clear p1 p2 p3 p4
  have i0 := SX.cell 0
  have i1 := SX.cell 1
  have i2 := SX.cell 2
  have i3 := SX.cell 3
  have i4 := SX.cell 4
  have i5 := SX.cell 5
  go_enter Try.func4, Try.ntmps4
  go_wp2_with fail
  refine (h1 _ _ HX).mono ?_; rintro e w3 ⟨rfl, B3⟩
  clear i0 i1 i2 i3 i4 i5
  replace HX := HX.st B3
  replace SX := SX.nx B3
  replace B := bt B B3
  have i0 := SX.cell 0
  have i1 := SX.cell 1
  have i2 := SX.cell 2
  have i3 := SX.cell 3
  have i4 := SX.cell 4
  have i5 := SX.cell 5
  go_wp2_with fail
  refine (h2 _ _ HX).mono ?_; rintro e w4 ⟨rfl, B4⟩
  clear i0 i1 i2 i3 i4 i5
  replace HX := HX.st B4
  replace SX := SX.nx B4
  replace B := bt B B4
  go_wp2_with fail
  refine (xawake_any _).mono ?_; rintro e w5 ⟨rfl, B5⟩
  replace HX := HX.st B5
  replace SX := SX.nx B5
  replace B := bt B B5
  clear B3 B4 B5 h1 h2
  by_cases hE : E = 0
  · by_cases hl : 16384 < xs.size
    · have dl : (16384 : Int) < (xs.size : Int) := by omega
      clear hback h3 hl hsame
      subst hE
      go_wp2_with fail
      go_ret
      exact ⟨rfl, B⟩
    · have hsm := hsame hE
      clear hsame
      have dl : decide ((16384 : Int) < (xs.size : Int)) = false := decide_eq_false (by omega)
      have hr := hback hE (by omega)
      have h4 := fun w => h3 (by omega) w
      rw [hr] at h4
      subst hE
      clear hback hr h3 hl
      go_wp2_with fail
      refine (h4 _).mono ?_; rintro e w6 ⟨A6a, c6a, D6a, d6a, A6b, c6b, D6b, d6b, rfl, Oa, Ob, Oc, Od, B6⟩
      try dsimp only at Oa Ob Oc Od
      have HY : VN w6 w6.heap.size (.agg #[.bool r.s, .slice A6a r.a.length c6a, .slice D6a r.b.length d6a, .bool i.s, .slice A6b i.a.length c6b, .slice D6b i.b.length d6b]) r i := ⟨A6a, c6a, D6a, d6a, A6b, c6b, D6b, d6b, rfl, Oa.rw, Ob.rw, Oc.rw, Od.rw⟩
      clear Oa Ob Oc Od h4
      replace HX := HX.st B6
      replace SX := SX.nx B6
      replace B := bt B B6
      have L := bal w6 (.cells #[.bool r.s, .slice A6a r.a.length c6a, .slice D6a r.b.length d6a, .bool i.s, .slice A6b i.a.length c6b, .slice D6b i.b.length d6b] 26)
      have SY := SB.new w6 [.bool r.s, .slice A6a r.a.length c6a, .slice D6a r.b.length d6a, .bool i.s, .slice A6b i.a.length c6b, .slice D6b i.b.length d6b] 26
      replace HY := HY.st L
      replace HX := HX.st L
      replace SX := SX.nx L
      replace B := bt B L
      clear L B6
      have i0 := SX.cell 0
      have i1 := SX.cell 1
      have i2 := SX.cell 2
      have i3 := SX.cell 3
      have i4 := SX.cell 4
      have i5 := SX.cell 5
      have j0 := SY.cell 0
      have j1 := SY.cell 1
      have j2 := SY.cell 2
      have j3 := SY.cell 3
      have j4 := SY.cell 4
      have j5 := SY.cell 5
      have hs := esame_any _ _ r i r i _ HX HY
      rw [hsm] at hs
      go_wp2_with fail
      refine hs.mono ?_; rintro e w7 ⟨rfl, B7⟩
      go_wp2_with fail
      go_ret
      exact ⟨rfl, bt B B7⟩
  · have te : (E != 0) = true := bne_iff_ne.2 hE
    clear hE hback h3 hsame
    go_wp2_with fail
    go_ret
    exact ⟨rfl, B⟩
end Go.Proofs.Ytkjfpaommbjgbaa
