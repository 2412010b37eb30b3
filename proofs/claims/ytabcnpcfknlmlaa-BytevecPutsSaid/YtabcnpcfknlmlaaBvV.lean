/- The walk of BytevecPuts. -/
import Derived.Test.YtabcnpcfknlmlaaBvU
namespace Go.Proofs.Ytabcnpcfknlmlaa
open Go.RowKit

theorem get_put0 {s : Nat} {big : Bool} {r i : Rw} {q cb : List UInt8} {a : Nat} (h1 : 1 ≤ s) (h64 : s ≤ 64) (ho : oneA s big false r i = (cb, 0)) (hq : (q.drop a).take s = cb) (hl : a + s ≤ q.length) :
    getQ q (a : Int) (s : Int) big false = (r, i, 0) ∧ nB r i = true := by
  unfold oneA at ho
  split at ho
  · rename_i hn
    split at ho
    · rename_i hw
      split at ho
      · rename_i hk
        injection ho with hcb _
        obtain ⟨g1, g2, g3, g4, g5⟩ := wB_int hw
        have hb : leB q a s big = bytesU (uS s r.s (val r.a)) s := leB_out (hq.trans hcb.symm)
        refine ⟨?_, hn⟩
        unfold getQ
        rw [show inB q.length (a : Int) (s : Int) = true by unfold inB; rw [decide_eq_true_eq]; omega, if_pos rfl, Int.toNat_natCast, Int.toNat_natCast]
        have hi : rwq 0 = i := by rw [g3]; exact rwq_z
        rw [hi]
        have hx : rwq ((getI q a s big false : Int) : Rat) = r := by
          unfold getI negB
          rw [hb, Bool.false_and, if_neg (by simp), lv_bytesU]
          obtain ⟨rs, ra, rb⟩ := r
          dsimp only at *
          subst g2
          generalize hv : val ra = v at *
          subst g1
          clear hv hcb hb hq hw hn hi
          unfold okS at hk
          unfold uS
          cases rs with
          | true =>
            rw [if_pos rfl] at hk
            simp at hk
          | false =>
            rw [if_neg (show ¬ false = true by simp)] at hk ⊢
            simp only [Bool.false_and, Bool.not_false, Bool.true_and, decide_eq_true_eq] at hk
            rw [Nat.mod_eq_of_lt hk]
            exact rwq_pos1
        rw [hx]
      · simp at ho
    · simp at ho
  · simp at ho
theorem puts_get {l p : List UInt8} {at_ size : Int} {big signed : Bool} {r i : Rw} (hb : l.length ≤ 140737488351232) (h : putA l at_ size big signed r i = (p, 0)) :
    getQ p at_ size big signed = (r, i, 0) ∧ nB r i = true := by
  unfold putA at h
  split at h
  · rename_i hi
    unfold inB at hi
    rw [decide_eq_true_eq] at hi
    obtain ⟨a, rfl⟩ := Int.eq_ofNat_of_zero_le hi.2.2.1
    obtain ⟨s, rfl⟩ := Int.eq_ofNat_of_zero_le (show 0 ≤ size by omega)
    rw [Int.toNat_natCast, Int.toNat_natCast] at h
    split at h
    · rename_i h0
      injection h with hp _
      have hl := oneA_len h0
      rcases ho : oneA s big signed r i with ⟨cb, k⟩
      rw [ho] at h0 hp hl
      dsimp only at h0 hp hl
      subst h0
      have hle : a + cb.length ≤ l.length := by omega
      have hq : ((putL l cb a).drop a).take s = cb := by have := putL_same hle; rw [hl] at this; exact this
      have hpl := putL_len hle
      rw [← hp]
      cases signed with
      | true => exact get_put (by omega) (by omega) ho hq (by omega) (by omega)
      | false => exact get_put0 (by omega) (by omega) ho hq (by omega)
    · rename_i h0
      injection h with _ h2
      exact absurd h2 h0
  · simp at h


set_option maxRecDepth 100000 in
set_option maxHeartbeats 8000000 in
theorem puts_ok (A : Option Addr) (c : Nat) (l : List UInt8) (at_ size : Int) (big signed : Bool) (V : Value) (r i : Rw) (w : World) (h : RB w w.heap.size A c l) (hV : VN w w.heap.size V r i)
    (ha : -9223372036854775808 ≤ at_ ∧ at_ ≤ 9223372036854775807) (hs : -9223372036854775808 ≤ size ∧ size ≤ 9223372036854775807) (p : List UInt8) (em : putA l at_ size big signed r i = (p, 0)) :
    Calls Try.prog 4 #[.slice A l.length c, .int .i64 at_, .int .i64 size, .bool big, .bool signed, V] w fun e w' => e = .returned (.bool true) ∧ Below w.heap.size w w' := by
  have hbl := h.big
  obtain ⟨A1, c1, D1, d1, A2, c2, D2, d2, rfl, p1, p2, p3, p4⟩ := hV
  have Ha : VN w w.heap.size (.agg #[.bool r.s, .slice A1 r.a.length c1, .slice D1 r.b.length d1, .bool i.s, .slice A2 i.a.length c2, .slice D2 i.b.length d2]) r i := ⟨A1, c1, D1, d1, A2, c2, D2, d2, rfl, p1, p2, p3, p4⟩
  have B0 := bal w (.cells #[.bool r.s, .slice A1 r.a.length c1, .slice D1 r.b.length d1, .bool i.s, .slice A2 i.a.length c2, .slice D2 i.b.length d2] 27)
  have S0 := SB.new w [.bool r.s, .slice A1 r.a.length c1, .slice D1 r.b.length d1, .bool i.s, .slice A2 i.a.length c2, .slice D2 i.b.length d2] 27
  clear p1 p2 p3 p4
  have hp1 := fun A c w' x y => put_any A c l.length l at_ size big signed (.agg #[.bool r.s, .slice A1 r.a.length c1, .slice D1 r.b.length d1, .bool i.s, .slice A2 i.a.length c2, .slice D2 i.b.length d2]) r i w' rfl x y ha.1 ha.2 hs.1 hs.2
  have hp2 := fun w' x y => rput_any A c l.length l at_ size big signed (.agg #[.bool r.s, .slice A1 r.a.length c1, .slice D1 r.b.length d1, .bool i.s, .slice A2 i.a.length c2, .slice D2 i.b.length d2]) r i w' rfl x y ha.1 ha.2 hs.1 hs.2
  rw [em] at hp1 hp2
  have hg := fun X cx w' x => get_any X cx p.length p at_ size big signed w' rfl x ha.1 ha.2 hs.1 hs.2
  obtain ⟨eg, hnb⟩ := puts_get hbl em
  rw [eg] at hg
  have hsm := fun V U w' x y => esame_any V U r i r i w' x y
  rw [sameB_self hnb] at hsm
  clear eg hnb
  have hs1 := fun X Y cx cy w' x y => rsameB_any X Y cx cy p.length p.length p p w' rfl rfl x y
  rw [decide_eq_true (rfl : p = p)] at hs1
  have hs2 := fun X cx w' x y => rsameB_any X A cx c l.length l.length l l w' rfl rfl x y
  rw [decide_eq_true (rfl : l = l)] at hs2
  clear em ha hs
  obtain ⟨W1, hW1⟩ : ∃ W1, W1 = w.alloc (.cells #[.bool r.s, .slice A1 r.a.length c1, .slice D1 r.b.length d1, .bool i.s, .slice A2 i.a.length c2, .slice D2 i.b.length d2] 27) := ⟨_, rfl⟩
  go_enter Try.func4, Try.ntmps4
  go_upto_region 1 with fail
  rw [← hW1] at B0 S0 ⊢
  clear hW1
  have Ba := bal W1 (.cells #[] 5)
  have hr := RM.step h (bt B0 Ba) (bt B0 Ba).size
  go_upto_region 2 with (at_builtin; refine wp_appB _ rfl _ _ rfl W1.heap.size _ _ _ [] rfl rfl (OB.empty W1) _ _ _ l rfl rfl _ hr (by simp; omega) (by simp) ?_; intro E2 e2 w2 O2 g2 B2)
  rw [List.nil_append] at O2
  have Bb := Ba.trans B2
  have C2 := bt B0 Bb
  have S2 := S0.nx Bb
  have i0 := S2.cell 0
  have i1 := S2.cell 1
  have i2 := S2.cell 2
  have i3 := S2.cell 3
  have i4 := S2.cell 4
  have i5 := S2.cell 5
  go_wp2_with fail
  refine (hp1 _ _ _ (OM.rl O2) (Ha.st C2)).mono ?_; rintro e w3 ⟨X, cx, rfl, OX, B3⟩
  dsimp only at OX
  have C3 := bt C2 B3
  have S3 := S2.nx B3
  clear i0 i1 i2 i3 i4 i5
  have RO := RM.step (OM.rl O2) B3 B3.size
  have RX := OM.rl OX
  have i0 := S3.cell 0
  have i1 := S3.cell 1
  have i2 := S3.cell 2
  have i3 := S3.cell 3
  have i4 := S3.cell 4
  have i5 := S3.cell 5
  go_wp2_with fail
  refine (hp2 _ (RM.step h C3 C3.size) (Ha.st C3)).mono ?_; rintro e w4 ⟨Y, cy, rfl, OY, B4⟩
  dsimp only at OY
  have C4 := bt C3 B4
  have S4 := S3.nx B4
  clear i0 i1 i2 i3 i4 i5
  have RO := RM.step RO B4 B4.size
  have RX := RM.step RX B4 B4.size
  have RY := OM.rl OY
  go_wp2_with fail
  refine (awake5_any _).mono ?_; rintro e w5 ⟨rfl, B5⟩
  have C5 := bt C4 B5
  have S5 := S4.nx B5
  have RO := RM.step RO B5 B5.size
  have RX := RM.step RX B5 B5.size
  have RY := RM.step RY B5 B5.size
  go_wp2_with fail
  refine (hs1 _ _ _ _ _ RX RY).mono ?_; rintro e w6 ⟨rfl, q6, rfl⟩
  have C6 := bdN C5 q6
  have RO6 := RM.drewN RO q6
  have RX6 := RM.drewN RX q6
  have B6 : Below w5.heap.size w5 (w5.drewN q6) := bdN (Below.refl _ _) q6
  have S6 := S5.nx B6
  go_wp2_with fail
  refine (hs2 _ _ _ (RM.step RO B6 B6.size) (RM.step h C6 C6.size)).mono ?_; rintro e w7 ⟨rfl, q7, rfl⟩
  have B7 : Below w5.heap.size w5 (w5.drewN (q6 + q7)) := bdN (Below.refl _ _) _
  have C7 := bt C5 B7
  have S7 := S5.nx B7
  have RX := RM.step RX B7 B7.size
  clear RO RY RO6 RX6 S6 B6
  go_wp2_with fail
  refine (hg _ _ _ RX).mono ?_; rintro e w8 ⟨G1, g1, G2, g2', G3, g3, G4, g4, rfl, Q1, Q2, Q3, Q4, B8⟩
  try dsimp only at Q1 Q2 Q3 Q4
  have C8 := bt C7 B8
  have S8 := S7.nx B8
  have Bg := bal w8 (.cells #[.bool r.s, .slice G1 r.a.length g1, .slice G2 r.b.length g2', .bool i.s, .slice G3 i.a.length g3, .slice G4 i.b.length g4] 27)
  have Sg := SB.new w8 [.bool r.s, .slice G1 r.a.length g1, .slice G2 r.b.length g2', .bool i.s, .slice G3 i.a.length g3, .slice G4 i.b.length g4] 27
  have C9 := bt C8 Bg
  have Hg : VN w8 w8.heap.size (.agg #[.bool r.s, .slice G1 r.a.length g1, .slice G2 r.b.length g2', .bool i.s, .slice G3 i.a.length g3, .slice G4 i.b.length g4]) r i := ⟨G1, g1, G2, g2', G3, g3, G4, g4, rfl, Q1.rw, Q2.rw, Q3.rw, Q4.rw⟩
  have Hg := Hg.st Bg
  have S9 := S8.nx Bg
  have i0 := S9.cell 0
  have i1 := S9.cell 1
  have i2 := S9.cell 2
  have i3 := S9.cell 3
  have i4 := S9.cell 4
  have i5 := S9.cell 5
  have j0 := Sg.cell 0
  have j1 := Sg.cell 1
  have j2 := Sg.cell 2
  have j3 := Sg.cell 3
  have j4 := Sg.cell 4
  have j5 := Sg.cell 5
  go_wp2_with fail
  refine (hsm _ _ _ Hg (Ha.st C9)).mono ?_; rintro e w9 ⟨rfl, B9⟩
  go_wp2_with fail
  go_ret
  exact ⟨by simp, bt C9 B9⟩

set_option maxRecDepth 100000 in
set_option maxHeartbeats 8000000 in
theorem puts_err (A : Option Addr) (c : Nat) (l : List UInt8) (at_ size : Int) (big signed : Bool) (V : Value) (r i : Rw) (w : World) (h : RB w w.heap.size A c l) (hV : VN w w.heap.size V r i)
    (ha : -9223372036854775808 ≤ at_ ∧ at_ ≤ 9223372036854775807) (hs : -9223372036854775808 ≤ size ∧ size ≤ 9223372036854775807) (p : List UInt8) (k : Int) (hk : ¬ k = 0) (em : putA l at_ size big signed r i = (p, k)) :
    Calls Try.prog 4 #[.slice A l.length c, .int .i64 at_, .int .i64 size, .bool big, .bool signed, V] w fun e w' => e = .returned (.bool true) ∧ Below w.heap.size w w' := by
  have hbl := h.big
  obtain ⟨A1, c1, D1, d1, A2, c2, D2, d2, rfl, p1, p2, p3, p4⟩ := hV
  have Ha : VN w w.heap.size (.agg #[.bool r.s, .slice A1 r.a.length c1, .slice D1 r.b.length d1, .bool i.s, .slice A2 i.a.length c2, .slice D2 i.b.length d2]) r i := ⟨A1, c1, D1, d1, A2, c2, D2, d2, rfl, p1, p2, p3, p4⟩
  have B0 := bal w (.cells #[.bool r.s, .slice A1 r.a.length c1, .slice D1 r.b.length d1, .bool i.s, .slice A2 i.a.length c2, .slice D2 i.b.length d2] 27)
  have S0 := SB.new w [.bool r.s, .slice A1 r.a.length c1, .slice D1 r.b.length d1, .bool i.s, .slice A2 i.a.length c2, .slice D2 i.b.length d2] 27
  clear p1 p2 p3 p4
  have hp1 := fun A c w' x y => put_any A c l.length l at_ size big signed (.agg #[.bool r.s, .slice A1 r.a.length c1, .slice D1 r.b.length d1, .bool i.s, .slice A2 i.a.length c2, .slice D2 i.b.length d2]) r i w' rfl x y ha.1 ha.2 hs.1 hs.2
  have hp2 := fun w' x y => rput_any A c l.length l at_ size big signed (.agg #[.bool r.s, .slice A1 r.a.length c1, .slice D1 r.b.length d1, .bool i.s, .slice A2 i.a.length c2, .slice D2 i.b.length d2]) r i w' rfl x y ha.1 ha.2 hs.1 hs.2
  rw [em] at hp1 hp2
  have hg := fun X cx w' x => get_any X cx p.length p at_ size big signed w' rfl x ha.1 ha.2 hs.1 hs.2
  rcases eg : getQ p at_ size big signed with ⟨gr, gi, gk⟩
  rw [eg] at hg
  clear eg
  have hkb : (k == 0) = false := beq_eq_false_iff_ne.2 hk
  have hkn : (k != 0) = true := by simp [hk]
  have hs1 := fun X Y cx cy w' x y => rsameB_any X Y cx cy p.length p.length p p w' rfl rfl x y
  rw [decide_eq_true (rfl : p = p)] at hs1
  have hs2 := fun X cx w' x y => rsameB_any X A cx c l.length l.length l l w' rfl rfl x y
  rw [decide_eq_true (rfl : l = l)] at hs2
  have hkk : (k != k) = false := by simp
  clear em ha hs
  obtain ⟨W1, hW1⟩ : ∃ W1, W1 = w.alloc (.cells #[.bool r.s, .slice A1 r.a.length c1, .slice D1 r.b.length d1, .bool i.s, .slice A2 i.a.length c2, .slice D2 i.b.length d2] 27) := ⟨_, rfl⟩
  go_enter Try.func4, Try.ntmps4
  go_upto_region 1 with fail
  rw [← hW1] at B0 S0 ⊢
  clear hW1
  have Ba := bal W1 (.cells #[] 5)
  have hr := RM.step h (bt B0 Ba) (bt B0 Ba).size
  go_upto_region 2 with (at_builtin; refine wp_appB _ rfl _ _ rfl W1.heap.size _ _ _ [] rfl rfl (OB.empty W1) _ _ _ l rfl rfl _ hr (by simp; omega) (by simp) ?_; intro E2 e2 w2 O2 g2 B2)
  rw [List.nil_append] at O2
  have Bb := Ba.trans B2
  have C2 := bt B0 Bb
  have S2 := S0.nx Bb
  have i0 := S2.cell 0
  have i1 := S2.cell 1
  have i2 := S2.cell 2
  have i3 := S2.cell 3
  have i4 := S2.cell 4
  have i5 := S2.cell 5
  go_wp2_with fail
  refine (hp1 _ _ _ (OM.rl O2) (Ha.st C2)).mono ?_; rintro e w3 ⟨X, cx, rfl, OX, B3⟩
  dsimp only at OX
  have C3 := bt C2 B3
  have S3 := S2.nx B3
  clear i0 i1 i2 i3 i4 i5
  have RO := RM.step (OM.rl O2) B3 B3.size
  have RX := OM.rl OX
  have i0 := S3.cell 0
  have i1 := S3.cell 1
  have i2 := S3.cell 2
  have i3 := S3.cell 3
  have i4 := S3.cell 4
  have i5 := S3.cell 5
  go_wp2_with fail
  refine (hp2 _ (RM.step h C3 C3.size) (Ha.st C3)).mono ?_; rintro e w4 ⟨Y, cy, rfl, OY, B4⟩
  dsimp only at OY
  have C4 := bt C3 B4
  have S4 := S3.nx B4
  clear i0 i1 i2 i3 i4 i5
  have RO := RM.step RO B4 B4.size
  have RX := RM.step RX B4 B4.size
  have RY := OM.rl OY
  go_wp2_with fail
  refine (awake5_any _).mono ?_; rintro e w5 ⟨rfl, B5⟩
  have C5 := bt C4 B5
  have S5 := S4.nx B5
  have RO := RM.step RO B5 B5.size
  have RX := RM.step RX B5 B5.size
  have RY := RM.step RY B5 B5.size
  go_wp2_with fail
  refine (hs1 _ _ _ _ _ RX RY).mono ?_; rintro e w6 ⟨rfl, q6, rfl⟩
  have C6 := bdN C5 q6
  have RO6 := RM.drewN RO q6
  have RX6 := RM.drewN RX q6
  have B6 : Below w5.heap.size w5 (w5.drewN q6) := bdN (Below.refl _ _) q6
  have S6 := S5.nx B6
  go_wp2_with fail
  refine (hs2 _ _ _ (RM.step RO B6 B6.size) (RM.step h C6 C6.size)).mono ?_; rintro e w7 ⟨rfl, q7, rfl⟩
  have B7 : Below w5.heap.size w5 (w5.drewN (q6 + q7)) := bdN (Below.refl _ _) _
  have C7 := bt C5 B7
  have S7 := S5.nx B7
  have RX := RM.step RX B7 B7.size
  clear RO RY RO6 RX6 S6 B6
  go_wp2_with fail
  refine (hg _ _ _ RX).mono ?_; rintro e w8 ⟨G1, g1, G2, g2', G3, g3, G4, g4, rfl, Q1, Q2, Q3, Q4, B8⟩
  try dsimp only at Q1 Q2 Q3 Q4
  have C8 := bt C7 B8
  have S8 := S7.nx B8
  have Bg := bal w8 (.cells #[.bool gr.s, .slice G1 gr.a.length g1, .slice G2 gr.b.length g2', .bool gi.s, .slice G3 gi.a.length g3, .slice G4 gi.b.length g4] 27)
  have Sg := SB.new w8 [.bool gr.s, .slice G1 gr.a.length g1, .slice G2 gr.b.length g2', .bool gi.s, .slice G3 gi.a.length g3, .slice G4 gi.b.length g4] 27
  have C9 := bt C8 Bg
  go_wp2_with fail
  go_ret
  exact ⟨by simp, C9⟩

theorem bytevecPuts_walk (A : Option Addr) (c : Nat) (l : List UInt8) (at_ size : Int) (big signed : Bool) (V : Value) (r i : Rw) (w : World) (h : RB w w.heap.size A c l)
    (ha : -9223372036854775808 ≤ at_ ∧ at_ ≤ 9223372036854775807) (hs : -9223372036854775808 ≤ size ∧ size ≤ 9223372036854775807) (hV : VN w w.heap.size V r i) :
    Calls Try.prog 4 #[.slice A l.length c, .int .i64 at_, .int .i64 size, .bool big, .bool signed, V] w fun e w' => e = .returned (.bool true) ∧ Below w.heap.size w w' := by
  rcases em : putA l at_ size big signed r i with ⟨p, k⟩
  by_cases hk : k = 0
  · subst hk
    exact puts_ok A c l at_ size big signed V r i w h hV ha hs p em
  · exact puts_err A c l at_ size big signed V r i w h hV ha hs p k hk em

end Go.Proofs.Ytabcnpcfknlmlaa
