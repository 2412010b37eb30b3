/- The walk of ExactReads. -/
import Derived.Test.YtkjfpaommbjgbaaRdJ
import Derived.Test.YtkjfpaommbjgbaaGI
namespace Go.Proofs.Ytkjfpaommbjgbaa
open Go.RowKit

/-- both sides read alike; without an error it is a number -/
theorem reads_same (s : List UInt8) (b : Int) : readZ s b = readZF s b ∧ ((readZ s b).2.2 = 0 → nB (readZ s b).1 (readZ s b).2.1 = true) := by
  unfold readZ readZF
  by_cases h : b = 2 ∨ b = 8 ∨ b = 10 ∨ b = 16
  · rw [if_pos h, if_pos h]
    exact read_same (by unfold rdOk; omega)
  · rw [if_neg h, if_neg h]
    exact ⟨rfl, fun h => by simp at h⟩
theorem alike_self (r i : Rw) : alikeB r i r i = true := by
  unfold alikeB
  rw [Bool.and_eq_true, fsB_iff, fsB_iff]
  exact ⟨⟨rfl, rfl, rfl⟩, rfl, rfl, rfl⟩
set_option maxRecDepth 100000 in
set_option maxHeartbeats 16000000 in
theorem exactReads_walk (s : ByteArray) (b : Int) (w : World) (hs : s.size ≤ 140737488351232) (_hb : -9223372036854775808 ≤ b ∧ b ≤ 9223372036854775807) :
    Calls Try.prog 3 #[.string s, .int .i64 b] w fun e w' => e = .returned (.bool true) ∧ Below w.heap.size w w' := by
  have h1 := fun w => eread_any s b w hs
  have h2 := fun w => rread3_any s b w hs
  obtain ⟨hsame, hs⟩ := reads_same s.data.toList b
  rw [← hsame] at h2
  clear hsame
  generalize readZ s.data.toList b = x at h1 h2 hs
  obtain ⟨mr, mi, mk⟩ := x
  dsimp only at hs
  have l1 := fun V U w' h1 h2 => alike_any V U mr mi mr mi w' h1 h2
  rw [alike_self] at l1
  go_enter Try.func3, Try.ntmps3
  go_wp2_with fail
  refine (h1 _).mono ?_; rintro e w3 ⟨A3a, c3a, D3a, d3a, A3b, c3b, D3b, d3b, rfl, Oa, Ob, Oc, Od, B3⟩
  try dsimp only at Oa Ob Oc Od
  have HX : VN w3 w3.heap.size (.agg #[.bool mr.s, .slice A3a mr.a.length c3a, .slice D3a mr.b.length d3a, .bool mi.s, .slice A3b mi.a.length c3b, .slice D3b mi.b.length d3b]) mr mi := ⟨A3a, c3a, D3a, d3a, A3b, c3b, D3b, d3b, rfl, Oa.rw, Ob.rw, Oc.rw, Od.rw⟩
  clear Oa Ob Oc Od
  have L := bal w3 (.cells #[.bool mr.s, .slice A3a mr.a.length c3a, .slice D3a mr.b.length d3a, .bool mi.s, .slice A3b mi.a.length c3b, .slice D3b mi.b.length d3b] 26)
  have SX := SB.new w3 [.bool mr.s, .slice A3a mr.a.length c3a, .slice D3a mr.b.length d3a, .bool mi.s, .slice A3b mi.a.length c3b, .slice D3b mi.b.length d3b] 26
  replace HX := HX.st L
  have B := bt B3 L
  clear L B3
  go_wp2_with fail
  refine (h2 _).mono ?_; rintro e w4 ⟨A4a, c4a, D4a, d4a, A4b, c4b, D4b, d4b, rfl, Oa, Ob, Oc, Od, B4⟩
  try dsimp only at Oa Ob Oc Od
  have HY : VN w4 w4.heap.size (.agg #[.bool mr.s, .slice A4a mr.a.length c4a, .slice D4a mr.b.length d4a, .bool mi.s, .slice A4b mi.a.length c4b, .slice D4b mi.b.length d4b]) mr mi := ⟨A4a, c4a, D4a, d4a, A4b, c4b, D4b, d4b, rfl, Oa.rw, Ob.rw, Oc.rw, Od.rw⟩
  clear Oa Ob Oc Od
  have L := bal w4 (.cells #[.bool mr.s, .slice A4a mr.a.length c4a, .slice D4a mr.b.length d4a, .bool mi.s, .slice A4b mi.a.length c4b, .slice D4b mi.b.length d4b] 26)
  have SY := SB.new w4 [.bool mr.s, .slice A4a mr.a.length c4a, .slice D4a mr.b.length d4a, .bool mi.s, .slice A4b mi.a.length c4b, .slice D4b mi.b.length d4b] 26
  replace HY := HY.st L
  replace HX := (HX.st B4).st L
  replace SX := (SX.nx B4).nx L
  replace B := bt (bt B B4) L
  clear L B4
  go_wp2_with fail
  refine (xawake_any _).mono ?_; rintro e w5 ⟨rfl, B5⟩
  replace HX := HX.st B5
  replace HY := HY.st B5
  replace SX := SX.nx B5
  replace SY := SY.nx B5
  replace B := bt B B5
  clear B5
  have i0 := SX.cell 0
  have i1 := SX.cell 1
  have i2 := SX.cell 2
  have i3 := SX.cell 3
  have i4 := SX.cell 4
  have i5 := SX.cell 5
  have j0 := SY.cell 0
  have j1 := SY.cell 1
  have j2 := SY.cell 2
  have j3 := SY.cell 3
  have j4 := SY.cell 4
  have j5 := SY.cell 5
  go_wp2_with fail
  refine (l1 _ _ _ HX HY).mono ?_; rintro e w6 ⟨rfl, B6⟩
  clear i0 j0 i1 j1 i2 j2 i3 j3 i4 j4 i5 j5
  replace HX := HX.st B6
  replace SX := SX.nx B6
  replace B := bt B B6
  clear B6 l1 SY HY h1 h2
  by_cases hk : mk = 0
  · have hb := hs hk
    subst hk
    clear hs
    have i0 := SX.cell 0
    have i1 := SX.cell 1
    have i2 := SX.cell 2
    have i3 := SX.cell 3
    have i4 := SX.cell 4
    have i5 := SX.cell 5
    go_wp2_with fail
    refine (esound_any _ _ _ _ HX).mono ?_; rintro e w7 ⟨rfl, B7⟩
    rw [hb]
    go_wp2_with fail
    go_ret
    exact ⟨rfl, bt B B7⟩
  · have te : (mk != 0) = true := bne_iff_ne.2 hk
    clear hs hk
    go_wp2_with fail
    go_ret
    exact ⟨rfl, B⟩
end Go.Proofs.Ytkjfpaommbjgbaa
