/- The walk of WholeNumbers. -/
import Derived.Test.YtbgggepdlkbpoaaGreatDoorWhC
import Derived.Test.YtbgggepdlkbpoaaGreatDoorWhQ
namespace Go.Proofs.YtbgggepdlkbpoaaGreatDoor
open Go.RowKit

theorem OBT.lit (w : World) (l : List UInt8) (hl : l.length ≤ 1000) : OBT (w.alloc (.cells (l.map f8T).toArray 5)) w.heap.size (some ⟨w.heap.size, 0, none⟩) l.length l := by
  refine ⟨?_, by omega⟩
  have h := World.ownsRow_lit (e := 5) (size := 1) w (l.map f8T).toArray l.length (Nat.le_refl _) (by unfold maxLen; omega) (by simp)
  exact h
theorem put64 {w : World} {base : Nat} {A : Option Addr} {V : Value} {r i : Rw} {big : Bool} {p Z : List UInt8} (hZ : Z.length = 64) (f1 : putA Z 0 64 big true r i = (p, 0)) (hO : OBT w base A 64 Z) (hV : VN w w.heap.size V r i) :
    Calls Tryz.prog 6 #[.slice A 64 64, .int .i64 0, .int .i64 64, .bool big, .bool true, V] w (RetBE w (p, 0)) := by
  have h := put_any A 64 64 Z 0 64 big true V r i w hZ.symm (OM.rl hO) hV (by omega) (by omega) (by omega) (by omega)
  rw [f1] at h
  exact h
theorem made64 (w : World) (Z : List UInt8) (hZ : Z = List.replicate 64 0) : ∃ w', (Instr.makeSlice 31 (.int .i64 64) (.int .i64 64)).run Tryz.prog w = .ok (.slice (some ⟨w.heap.size, 0, none⟩) 64 64) w' ∧ OBT w' w.heap.size (some ⟨w.heap.size, 0, none⟩) 64 Z ∧ Below w.heap.size w w' := by
  subst hZ
  obtain ⟨i0, hi, hz0, hz1, hz2⟩ := info_parts infoBT
  have h := run_make (w := w) 31 5 i0 _ Tryz.underlying31 hi hz0 .i64 .i64 64 64 (by omega) (by omega) (by rw [hz2]; omega) (by omega)
  refine ⟨_, h, ?_, bal _ _⟩
  have h2 := OBT.lit w (List.replicate 64 0) (by simp)
  rw [hz1]
  rw [show madeCells (f8T 0).cells (Int.toNat 64 * 1) = (List.map f8T (List.replicate 64 0)).toArray from by kernel_rfl]
  exact h2
set_option maxRecDepth 100000 in
set_option maxHeartbeats 16000000 in
theorem wholeNumbers_walk (V : Value) (r i : Rw) (big : Bool) (w : World) (hV : VN w w.heap.size V r i) :
    Calls Tryz.prog 3 #[V, .bool big] w fun e w' => e = .returned (.bool true) ∧ Below w.heap.size w w' := by
  obtain ⟨A1a, c1a, D1a, d1a, A1b, c1b, D1b, d1b, rfl, p1, p2, p3, p4⟩ := hV
  have H_a : VN w w.heap.size (.agg #[.bool r.s, .slice A1a r.a.length c1a, .slice D1a r.b.length d1a, .bool i.s, .slice A1b i.a.length c1b, .slice D1b i.b.length d1b]) r i := ⟨A1a, c1a, D1a, d1a, A1b, c1b, D1b, d1b, rfl, p1, p2, p3, p4⟩
  have C0 := bal w (.cells #[.bool r.s, .slice A1a r.a.length c1a, .slice D1a r.b.length d1a, .bool i.s, .slice A1b i.a.length c1b, .slice D1b i.b.length d1b] 26)
  have S_a := SB.new w [.bool r.s, .slice A1a r.a.length c1a, .slice D1a r.b.length d1a, .bool i.s, .slice A1b i.a.length c1b, .slice D1b i.b.length d1b] 26
  replace H_a := H_a.st C0
  clear p1 p2 p3 p4
  have hlen := blength_any (.agg #[.bool r.s, .slice A1a r.a.length c1a, .slice D1a r.b.length d1a, .bool i.s, .slice A1b i.a.length c1b, .slice D1b i.b.length d1b]) r i _ H_a
  have hfacts := fun h1 h2 => whole_facts (r := r) (i := i) h1 h2 big
  generalize qlenA r i = q at *
  obtain ⟨n, E⟩ := q
  dsimp only at hlen hfacts
  have a_0 := S_a.cell 0
  have a_1 := S_a.cell 1
  have a_2 := S_a.cell 2
  have a_3 := S_a.cell 3
  have a_4 := S_a.cell 4
  have a_5 := S_a.cell 5
  go_enter Tryz.func3, Tryz.ntmps3
  go_wp2_with fail
  refine hlen.mono ?_; rintro e w2 ⟨rfl, BX⟩
  clear hlen
  clear a_0 a_1 a_2 a_3 a_4 a_5
  replace H_a := H_a.st BX
  replace S_a := S_a.nx BX
  replace C0 := bt C0 BX
  clear BX
  go_wp2_with fail
  refine (wake9_any _).mono ?_; rintro e w3 ⟨rfl, BX⟩
  replace H_a := H_a.st BX
  replace S_a := S_a.nx BX
  replace C0 := bt C0 BX
  clear BX
  by_cases hE : E = 0
  · by_cases hn : n ≤ 500
    · obtain ⟨p, T, lo, hi, up, f1, f2, hpl, f3, f4, f5, f6, f7, f8_, f9, f10, f11⟩ := hfacts hE hn
      obtain ⟨Z, hZd, hZ⟩ : ∃ Z : List UInt8, Z = List.replicate 64 0 ∧ Z.length = 64 := ⟨_, rfl, List.length_replicate ..⟩
      rw [← hZd] at f1
      subst hE
      have tn : decide ((500 : Int) < n) = false := decide_eq_false (by omega)
      clear hfacts
      generalize rwq 0 = zq at *
      skip
      go_upto_region 4 with fail
      have BD : Below w3.heap.size w3 w3.drew := bdN (Below.refl _ _) 1
      replace H_a := H_a.st BD
      replace S_a := S_a.dr
      replace C0 : Below w.heap.size w w3.drew := bdN C0 1
      refine AnyW.regionQ (fun _ => false) 9 (fun w' => w'.cell? ⟨w.heap.size, 0, none⟩ = some (.bool r.s) ∧ w'.cell? ⟨w.heap.size, 1, none⟩ = some (.slice A1a r.a.length c1a) ∧ w'.cell? ⟨w.heap.size, 2, none⟩ = some (.slice D1a r.b.length d1a) ∧ w'.cell? ⟨w.heap.size, 3, none⟩ = some (.bool i.s) ∧ w'.cell? ⟨w.heap.size, 4, none⟩ = some (.slice A1b i.a.length c1b) ∧ w'.cell? ⟨w.heap.size, 5, none⟩ = some (.slice D1b i.b.length d1b)) rfl (by kernel_rfl) (by kernel_rfl) (by (repeat (with_reducible (first | refine quiet_then ?_ | refine quiet_block ?_))); exact quiet_body) ⟨(S_a.cell 0), (S_a.cell 1), (S_a.cell 2), (S_a.cell 3), (S_a.cell 4), (S_a.cell 5)⟩ (fun Q' hQK hq hns hHeld => ?_)
      generalize w3.drew = wd at *
      refine AnyW.nextT (i := 1) (v := ?_) hq hns (.inr hHeld) rfl rfl (by kernel_rfl) (Or.inl ⟨by rfl, ?_⟩) ?_
      rotate_left
      · intro w' _; go_simp <;> with_reducible rfl
      try simp only [List.setIfInBounds_toArray, List.set_cons_zero, List.set_cons_succ]
      refine AnyW.next (i := 2) (v := ?_) hq hns hHeld rfl rfl (by kernel_rfl) (Or.inl ⟨by rfl, ?_⟩) ?_
      rotate_left
      · intro w' hSw; (try dsimp only at hSw); go_simp <;> with_reducible rfl
      try simp only [List.setIfInBounds_toArray, List.set_cons_zero, List.set_cons_succ]
      obtain ⟨wm, hms, hO, BX⟩ := made64 wd Z hZd
      clear hZd
      refine AnyW.one 0 (by kernel_rfl) rfl (fun K' hK => ?_)
      go_simp
      try rw [hms]
      try simp only [Result.andThen_ok]
      replace H_a := H_a.st BX
      replace S_a := S_a.nx BX
      replace C0 := bt C0 BX
      clear hms
      obtain ⟨gm, hgm⟩ : ∃ gm, wd.heap.size = gm := ⟨_, rfl⟩
      rw [hgm] at hO
      refine hK.out _ _ (.inr ⟨(S_a.cell 0), (S_a.cell 1), (S_a.cell 2), (S_a.cell 3), (S_a.cell 4), (S_a.cell 5)⟩) (fun hG => ?_)
      have hHeld := hG.resolve_left (notGone.spec (by rfl))
      clear hK K' hG
      try simp only [List.setIfInBounds_toArray, List.set_cons_zero, List.set_cons_succ]
      refine AnyW.one 3 (by kernel_rfl) rfl (fun K' hK => ?_)
      go_simp
      have hp := put64 hZ f1 hO H_a
      clear hO f1
      refine hp.mono ?_; rintro e' w4 ⟨Ap, cp, rfl, Op_, BX⟩
      dsimp only at Op_
      clear hp
      go_wp2_with fail
      replace H_a := H_a.st BX
      replace S_a := S_a.nx BX
      replace C0 := bt C0 BX
      have RP : RBT w4 w4.heap.size Ap cp p := OM.rl Op_
      clear BX Op_
      refine hK.out _ _ (.inr ⟨(S_a.cell 0), (S_a.cell 1), (S_a.cell 2), (S_a.cell 3), (S_a.cell 4), (S_a.cell 5)⟩) (fun hG => ?_)
      have hHeld := hG.resolve_left (notGone.spec (by rfl))
      clear hK K' hG
      try simp only [List.setIfInBounds_toArray, List.set_cons_zero, List.set_cons_succ]
      refine AnyW.nextT (i := 4) (v := ?_) hq hns (.inr hHeld) rfl rfl (by kernel_rfl) (Or.inl ⟨by rfl, ?_⟩) ?_
      rotate_left
      · intro w' _; go_simp <;> with_reducible rfl
      try simp only [List.setIfInBounds_toArray, List.set_cons_zero, List.set_cons_succ]
      refine AnyW.nextT (i := 5) (v := ?_) hq hns (.inr hHeld) rfl rfl (by kernel_rfl) (Or.inl ⟨by rfl, ?_⟩) ?_
      rotate_left
      · intro w' _; go_simp <;> with_reducible rfl
      try simp only [List.setIfInBounds_toArray, List.set_cons_zero, List.set_cons_succ]
      refine AnyW.nextT (i := 6) (v := ?_) hq hns (.inr hHeld) rfl rfl (by kernel_rfl) (Or.inl ⟨by rfl, ?_⟩) ?_
      rotate_left
      · intro w' _; go_simp <;> with_reducible rfl
      try simp only [List.setIfInBounds_toArray, List.set_cons_zero, List.set_cons_succ]
      refine AnyW.nextT (i := 7) (v := ?_) hq hns (.inr hHeld) rfl rfl (by kernel_rfl) (Or.inl ⟨by rfl, ?_⟩) ?_
      rotate_left
      · intro w' _; go_simp <;> with_reducible rfl
      try simp only [List.setIfInBounds_toArray, List.set_cons_zero, List.set_cons_succ]
      refine AnyW.nextT (i := 8) (v := ?_) hq hns (.inr hHeld) rfl rfl (by kernel_rfl) (Or.inl ⟨by rfl, ?_⟩) ?_
      rotate_left
      · intro w' _; go_simp <;> with_reducible rfl
      try simp only [List.setIfInBounds_toArray, List.set_cons_zero, List.set_cons_succ]
      refine AnyW.done (by kernel_rfl) (hQK.out _ _ ?_)
      clear hQK hq hns hHeld
      have og := fun W (h : RBT W W.heap.size Ap cp p) => get_any Ap cp 64 p 0 64 big true W hpl.symm h (by omega) (by omega) (by omega) (by omega)
      rw [f2] at og
      have of := fun V w' h => bfield_any V r i 0 100 w' h
      rw [f3] at of
      have os := fun V w' h => bshift_any V r i (-100) w' h
      rw [f4] at os
      have ou := fun V w' h => bshift_any V hi zq 100 w' h
      rw [f5] at ou
      have oo := fun V U w' h1 h2 => bor_any V U up zq lo zq w' h1 h2
      rw [f6] at oo
      have oa := fun V U w' h1 h2 => eadd_any (V := V) (U := U) (r := up) (i := zq) (r' := lo) (i' := zq) (w := w') h1 h2
      rw [f7] at oa
      have ot := fun V w' h => etext_any V r i 16 w' h
      rw [f8_] at ot
      obtain ⟨xs, hxs⟩ : ∃ x : ByteArray, x = ⟨T.toArray⟩ := ⟨_, rfl⟩
      have hT : xs.data.toList = T := by rw [hxs]
      have hTs : xs.size ≤ 140737488351232 := by have := s_len xs; rw [hT] at this; omega
      have or_ := fun w => eread_any xs 16 w hTs
      rw [hT, f9] at or_
      have g1 : RetT = fun w t e w' => e = .returned (.tuple #[.string ⟨t.1.toArray⟩, .int .i64 t.2]) ∧ Below w.heap.size w w' := rfl
      rw [g1] at ot
      clear g1
      dsimp only at ot
      rw [← hxs] at ot
      have osm := fun V U w' h1 h2 => esame_any V U r i r i w' h1 h2
      rw [f10] at osm
      clear hxs hT hTs f2 f3 f4 f5 f6 f7 f8_ f9 f10 f11 hpl
      go_wp2_with fail
      refine (og _ RP).mono ?_; rintro e w3 ⟨A3a, c3a, D3a, d3a, A3b, c3b, D3b, d3b, rfl, Oa, Ob, Oc, Od, BX⟩
      try dsimp only at Oa Ob Oc Od
      replace H_a := H_a.st BX
      replace S_a := S_a.nx BX
      replace RP := RP.step BX BX.size
      replace C0 := bt C0 BX
      have H_x : VN w3 w3.heap.size (.agg #[.bool r.s, .slice A3a r.a.length c3a, .slice D3a r.b.length d3a, .bool i.s, .slice A3b i.a.length c3b, .slice D3b i.b.length d3b]) r i := ⟨A3a, c3a, D3a, d3a, A3b, c3b, D3b, d3b, rfl, Oa.rw, Ob.rw, Oc.rw, Od.rw⟩
      clear Oa Ob Oc Od BX
      have LX := bal w3 (.cells #[.bool r.s, .slice A3a r.a.length c3a, .slice D3a r.b.length d3a, .bool i.s, .slice A3b i.a.length c3b, .slice D3b i.b.length d3b] 26)
      have S_x := SB.new w3 [.bool r.s, .slice A3a r.a.length c3a, .slice D3a r.b.length d3a, .bool i.s, .slice A3b i.a.length c3b, .slice D3b i.b.length d3b] 26
      replace H_a := H_a.st LX
      replace S_a := S_a.nx LX
      replace RP := RP.step LX LX.size
      replace C0 := bt C0 LX
      replace H_x := H_x.st LX
      clear LX
      skip
      have a_0 := S_a.cell 0
      have a_1 := S_a.cell 1
      have a_2 := S_a.cell 2
      have a_3 := S_a.cell 3
      have a_4 := S_a.cell 4
      have a_5 := S_a.cell 5
      go_wp2_with fail
      clear a_0 a_1 a_2 a_3 a_4 a_5
      obtain ⟨v3, hv3⟩ : ∃ v3, v3 = w3.alloc (.cells #[.bool r.s, .slice A3a r.a.length c3a, .slice D3a r.b.length d3a, .bool i.s, .slice A3b i.a.length c3b, .slice D3b i.b.length d3b] 26) := ⟨_, rfl⟩
      rw [← hv3] at H_a S_a H_x S_x RP C0 ⊢
      obtain ⟨g3, hg3⟩ : ∃ g3, w3.heap.size = g3 := ⟨_, rfl⟩
      rw [hg3] at S_x ⊢
      clear hv3 hg3
      refine (of _ _ H_a).mono ?_; rintro e w4 ⟨A4a, c4a, D4a, d4a, A4b, c4b, D4b, d4b, rfl, Oa, Ob, Oc, Od, BX⟩
      try dsimp only at Oa Ob Oc Od
      replace H_a := H_a.st BX
      replace H_x := H_x.st BX
      replace S_a := S_a.nx BX
      replace S_x := S_x.nx BX
      replace C0 := bt C0 BX
      have H_l : VN w4 w4.heap.size (.agg #[.bool lo.s, .slice A4a lo.a.length c4a, .slice D4a lo.b.length d4a, .bool zq.s, .slice A4b zq.a.length c4b, .slice D4b zq.b.length d4b]) lo zq := ⟨A4a, c4a, D4a, d4a, A4b, c4b, D4b, d4b, rfl, Oa.rw, Ob.rw, Oc.rw, Od.rw⟩
      clear Oa Ob Oc Od BX
      have LX := bal w4 (.cells #[.bool lo.s, .slice A4a lo.a.length c4a, .slice D4a lo.b.length d4a, .bool zq.s, .slice A4b zq.a.length c4b, .slice D4b zq.b.length d4b] 26)
      have S_l := SB.new w4 [.bool lo.s, .slice A4a lo.a.length c4a, .slice D4a lo.b.length d4a, .bool zq.s, .slice A4b zq.a.length c4b, .slice D4b zq.b.length d4b] 26
      replace H_a := H_a.st LX
      replace H_x := H_x.st LX
      replace S_a := S_a.nx LX
      replace S_x := S_x.nx LX
      replace C0 := bt C0 LX
      replace H_l := H_l.st LX
      clear LX
      have a_0 := S_a.cell 0
      have a_1 := S_a.cell 1
      have a_2 := S_a.cell 2
      have a_3 := S_a.cell 3
      have a_4 := S_a.cell 4
      have a_5 := S_a.cell 5
      go_wp2_with fail
      clear a_0 a_1 a_2 a_3 a_4 a_5
      obtain ⟨v4, hv4⟩ : ∃ v4, v4 = w4.alloc (.cells #[.bool lo.s, .slice A4a lo.a.length c4a, .slice D4a lo.b.length d4a, .bool zq.s, .slice A4b zq.a.length c4b, .slice D4b zq.b.length d4b] 26) := ⟨_, rfl⟩
      rw [← hv4] at H_a S_a H_x S_x H_l S_l C0 ⊢
      obtain ⟨g4, hg4⟩ : ∃ g4, w4.heap.size = g4 := ⟨_, rfl⟩
      rw [hg4] at S_l ⊢
      clear hv4 hg4
      refine (os _ _ H_a).mono ?_; rintro e w5 ⟨A5a, c5a, D5a, d5a, A5b, c5b, D5b, d5b, rfl, Oa, Ob, Oc, Od, BX⟩
      try dsimp only at Oa Ob Oc Od
      replace H_a := H_a.st BX
      replace H_x := H_x.st BX
      replace H_l := H_l.st BX
      replace S_a := S_a.nx BX
      replace S_x := S_x.nx BX
      replace S_l := S_l.nx BX
      replace C0 := bt C0 BX
      have H_h : VN w5 w5.heap.size (.agg #[.bool hi.s, .slice A5a hi.a.length c5a, .slice D5a hi.b.length d5a, .bool zq.s, .slice A5b zq.a.length c5b, .slice D5b zq.b.length d5b]) hi zq := ⟨A5a, c5a, D5a, d5a, A5b, c5b, D5b, d5b, rfl, Oa.rw, Ob.rw, Oc.rw, Od.rw⟩
      clear Oa Ob Oc Od BX
      have LX := bal w5 (.cells #[.bool hi.s, .slice A5a hi.a.length c5a, .slice D5a hi.b.length d5a, .bool zq.s, .slice A5b zq.a.length c5b, .slice D5b zq.b.length d5b] 26)
      have S_h := SB.new w5 [.bool hi.s, .slice A5a hi.a.length c5a, .slice D5a hi.b.length d5a, .bool zq.s, .slice A5b zq.a.length c5b, .slice D5b zq.b.length d5b] 26
      replace H_a := H_a.st LX
      replace H_x := H_x.st LX
      replace H_l := H_l.st LX
      replace S_a := S_a.nx LX
      replace S_x := S_x.nx LX
      replace S_l := S_l.nx LX
      replace C0 := bt C0 LX
      replace H_h := H_h.st LX
      clear LX
      have h_0 := S_h.cell 0
      have h_1 := S_h.cell 1
      have h_2 := S_h.cell 2
      have h_3 := S_h.cell 3
      have h_4 := S_h.cell 4
      have h_5 := S_h.cell 5
      go_wp2_with fail
      clear h_0 h_1 h_2 h_3 h_4 h_5
      obtain ⟨v5, hv5⟩ : ∃ v5, v5 = w5.alloc (.cells #[.bool hi.s, .slice A5a hi.a.length c5a, .slice D5a hi.b.length d5a, .bool zq.s, .slice A5b zq.a.length c5b, .slice D5b zq.b.length d5b] 26) := ⟨_, rfl⟩
      rw [← hv5] at H_a S_a H_x S_x H_l S_l H_h S_h C0 ⊢
      obtain ⟨g5, hg5⟩ : ∃ g5, w5.heap.size = g5 := ⟨_, rfl⟩
      rw [hg5] at S_h ⊢
      clear hv5 hg5
      refine (ou _ _ H_h).mono ?_; rintro e w6 ⟨A6a, c6a, D6a, d6a, A6b, c6b, D6b, d6b, rfl, Oa, Ob, Oc, Od, BX⟩
      try dsimp only at Oa Ob Oc Od
      replace H_a := H_a.st BX
      replace H_x := H_x.st BX
      replace H_l := H_l.st BX
      replace H_h := H_h.st BX
      replace S_a := S_a.nx BX
      replace S_x := S_x.nx BX
      replace S_l := S_l.nx BX
      replace S_h := S_h.nx BX
      replace C0 := bt C0 BX
      have H_u : VN w6 w6.heap.size (.agg #[.bool up.s, .slice A6a up.a.length c6a, .slice D6a up.b.length d6a, .bool zq.s, .slice A6b zq.a.length c6b, .slice D6b zq.b.length d6b]) up zq := ⟨A6a, c6a, D6a, d6a, A6b, c6b, D6b, d6b, rfl, Oa.rw, Ob.rw, Oc.rw, Od.rw⟩
      clear Oa Ob Oc Od BX
      have LX := bal w6 (.cells #[.bool up.s, .slice A6a up.a.length c6a, .slice D6a up.b.length d6a, .bool zq.s, .slice A6b zq.a.length c6b, .slice D6b zq.b.length d6b] 26)
      have S_u := SB.new w6 [.bool up.s, .slice A6a up.a.length c6a, .slice D6a up.b.length d6a, .bool zq.s, .slice A6b zq.a.length c6b, .slice D6b zq.b.length d6b] 26
      replace H_a := H_a.st LX
      replace H_x := H_x.st LX
      replace H_l := H_l.st LX
      replace H_h := H_h.st LX
      replace S_a := S_a.nx LX
      replace S_x := S_x.nx LX
      replace S_l := S_l.nx LX
      replace S_h := S_h.nx LX
      replace C0 := bt C0 LX
      replace H_u := H_u.st LX
      clear LX
      have u_0 := S_u.cell 0
      have u_1 := S_u.cell 1
      have u_2 := S_u.cell 2
      have u_3 := S_u.cell 3
      have u_4 := S_u.cell 4
      have u_5 := S_u.cell 5
      have l_0 := S_l.cell 0
      have l_1 := S_l.cell 1
      have l_2 := S_l.cell 2
      have l_3 := S_l.cell 3
      have l_4 := S_l.cell 4
      have l_5 := S_l.cell 5
      go_wp2_with fail
      clear u_0 u_1 u_2 u_3 u_4 u_5 l_0 l_1 l_2 l_3 l_4 l_5
      obtain ⟨v6, hv6⟩ : ∃ v6, v6 = w6.alloc (.cells #[.bool up.s, .slice A6a up.a.length c6a, .slice D6a up.b.length d6a, .bool zq.s, .slice A6b zq.a.length c6b, .slice D6b zq.b.length d6b] 26) := ⟨_, rfl⟩
      rw [← hv6] at H_a S_a H_x S_x H_l S_l H_h S_h H_u S_u C0 ⊢
      obtain ⟨g6, hg6⟩ : ∃ g6, w6.heap.size = g6 := ⟨_, rfl⟩
      rw [hg6] at S_u ⊢
      clear hv6 hg6
      refine (oo _ _ _ H_u H_l).mono ?_; rintro e w7 ⟨A7a, c7a, D7a, d7a, A7b, c7b, D7b, d7b, rfl, Oa, Ob, Oc, Od, BX⟩
      try dsimp only at Oa Ob Oc Od
      replace H_a := H_a.st BX
      replace H_x := H_x.st BX
      replace H_l := H_l.st BX
      replace H_h := H_h.st BX
      replace H_u := H_u.st BX
      replace S_a := S_a.nx BX
      replace S_x := S_x.nx BX
      replace S_l := S_l.nx BX
      replace S_h := S_h.nx BX
      replace S_u := S_u.nx BX
      replace C0 := bt C0 BX
      have H_y : VN w7 w7.heap.size (.agg #[.bool r.s, .slice A7a r.a.length c7a, .slice D7a r.b.length d7a, .bool i.s, .slice A7b i.a.length c7b, .slice D7b i.b.length d7b]) r i := ⟨A7a, c7a, D7a, d7a, A7b, c7b, D7b, d7b, rfl, Oa.rw, Ob.rw, Oc.rw, Od.rw⟩
      clear Oa Ob Oc Od BX
      have LX := bal w7 (.cells #[.bool r.s, .slice A7a r.a.length c7a, .slice D7a r.b.length d7a, .bool i.s, .slice A7b i.a.length c7b, .slice D7b i.b.length d7b] 26)
      have S_y := SB.new w7 [.bool r.s, .slice A7a r.a.length c7a, .slice D7a r.b.length d7a, .bool i.s, .slice A7b i.a.length c7b, .slice D7b i.b.length d7b] 26
      replace H_a := H_a.st LX
      replace H_x := H_x.st LX
      replace H_l := H_l.st LX
      replace H_h := H_h.st LX
      replace H_u := H_u.st LX
      replace S_a := S_a.nx LX
      replace S_x := S_x.nx LX
      replace S_l := S_l.nx LX
      replace S_h := S_h.nx LX
      replace S_u := S_u.nx LX
      replace C0 := bt C0 LX
      replace H_y := H_y.st LX
      clear LX
      have u_0 := S_u.cell 0
      have u_1 := S_u.cell 1
      have u_2 := S_u.cell 2
      have u_3 := S_u.cell 3
      have u_4 := S_u.cell 4
      have u_5 := S_u.cell 5
      have l_0 := S_l.cell 0
      have l_1 := S_l.cell 1
      have l_2 := S_l.cell 2
      have l_3 := S_l.cell 3
      have l_4 := S_l.cell 4
      have l_5 := S_l.cell 5
      go_wp2_with fail
      clear u_0 u_1 u_2 u_3 u_4 u_5 l_0 l_1 l_2 l_3 l_4 l_5
      obtain ⟨v7, hv7⟩ : ∃ v7, v7 = w7.alloc (.cells #[.bool r.s, .slice A7a r.a.length c7a, .slice D7a r.b.length d7a, .bool i.s, .slice A7b i.a.length c7b, .slice D7b i.b.length d7b] 26) := ⟨_, rfl⟩
      rw [← hv7] at H_a S_a H_x S_x H_l S_l H_h S_h H_u S_u H_y S_y C0 ⊢
      obtain ⟨g7, hg7⟩ : ∃ g7, w7.heap.size = g7 := ⟨_, rfl⟩
      rw [hg7] at S_y ⊢
      clear hv7 hg7
      refine (oa _ _ _ H_u H_l).mono ?_; rintro e w8 ⟨A8a, c8a, D8a, d8a, A8b, c8b, D8b, d8b, rfl, Oa, Ob, Oc, Od, BX⟩
      try dsimp only at Oa Ob Oc Od
      replace H_a := H_a.st BX
      replace H_x := H_x.st BX
      replace H_l := H_l.st BX
      replace H_h := H_h.st BX
      replace H_u := H_u.st BX
      replace H_y := H_y.st BX
      replace S_a := S_a.nx BX
      replace S_x := S_x.nx BX
      replace S_l := S_l.nx BX
      replace S_h := S_h.nx BX
      replace S_u := S_u.nx BX
      replace S_y := S_y.nx BX
      replace C0 := bt C0 BX
      have H_z : VN w8 w8.heap.size (.agg #[.bool r.s, .slice A8a r.a.length c8a, .slice D8a r.b.length d8a, .bool i.s, .slice A8b i.a.length c8b, .slice D8b i.b.length d8b]) r i := ⟨A8a, c8a, D8a, d8a, A8b, c8b, D8b, d8b, rfl, Oa.rw, Ob.rw, Oc.rw, Od.rw⟩
      clear Oa Ob Oc Od BX
      have LX := bal w8 (.cells #[.bool r.s, .slice A8a r.a.length c8a, .slice D8a r.b.length d8a, .bool i.s, .slice A8b i.a.length c8b, .slice D8b i.b.length d8b] 26)
      have S_z := SB.new w8 [.bool r.s, .slice A8a r.a.length c8a, .slice D8a r.b.length d8a, .bool i.s, .slice A8b i.a.length c8b, .slice D8b i.b.length d8b] 26
      replace H_a := H_a.st LX
      replace H_x := H_x.st LX
      replace H_l := H_l.st LX
      replace H_h := H_h.st LX
      replace H_u := H_u.st LX
      replace H_y := H_y.st LX
      replace S_a := S_a.nx LX
      replace S_x := S_x.nx LX
      replace S_l := S_l.nx LX
      replace S_h := S_h.nx LX
      replace S_u := S_u.nx LX
      replace S_y := S_y.nx LX
      replace C0 := bt C0 LX
      replace H_z := H_z.st LX
      clear LX
      have a_0 := S_a.cell 0
      have a_1 := S_a.cell 1
      have a_2 := S_a.cell 2
      have a_3 := S_a.cell 3
      have a_4 := S_a.cell 4
      have a_5 := S_a.cell 5
      go_wp2_with fail
      clear a_0 a_1 a_2 a_3 a_4 a_5
      obtain ⟨v8, hv8⟩ : ∃ v8, v8 = w8.alloc (.cells #[.bool r.s, .slice A8a r.a.length c8a, .slice D8a r.b.length d8a, .bool i.s, .slice A8b i.a.length c8b, .slice D8b i.b.length d8b] 26) := ⟨_, rfl⟩
      rw [← hv8] at H_a S_a H_x S_x H_l S_l H_h S_h H_u S_u H_y S_y H_z S_z C0 ⊢
      obtain ⟨g8, hg8⟩ : ∃ g8, w8.heap.size = g8 := ⟨_, rfl⟩
      rw [hg8] at S_z ⊢
      clear hv8 hg8
      refine (ot _ _ H_a).mono ?_; rintro e wt ⟨rfl, BX⟩
      replace H_a := H_a.st BX
      replace H_x := H_x.st BX
      replace H_l := H_l.st BX
      replace H_h := H_h.st BX
      replace H_u := H_u.st BX
      replace H_y := H_y.st BX
      replace H_z := H_z.st BX
      replace S_a := S_a.nx BX
      replace S_x := S_x.nx BX
      replace S_l := S_l.nx BX
      replace S_h := S_h.nx BX
      replace S_u := S_u.nx BX
      replace S_y := S_y.nx BX
      replace S_z := S_z.nx BX
      replace C0 := bt C0 BX
      clear BX
      go_wp2_with fail
      refine (or_ _).mono ?_; rintro e w9 ⟨A9a, c9a, D9a, d9a, A9b, c9b, D9b, d9b, rfl, Oa, Ob, Oc, Od, BX⟩
      try dsimp only at Oa Ob Oc Od
      replace H_a := H_a.st BX
      replace H_x := H_x.st BX
      replace H_l := H_l.st BX
      replace H_h := H_h.st BX
      replace H_u := H_u.st BX
      replace H_y := H_y.st BX
      replace H_z := H_z.st BX
      replace S_a := S_a.nx BX
      replace S_x := S_x.nx BX
      replace S_l := S_l.nx BX
      replace S_h := S_h.nx BX
      replace S_u := S_u.nx BX
      replace S_y := S_y.nx BX
      replace S_z := S_z.nx BX
      replace C0 := bt C0 BX
      have H_v : VN w9 w9.heap.size (.agg #[.bool r.s, .slice A9a r.a.length c9a, .slice D9a r.b.length d9a, .bool i.s, .slice A9b i.a.length c9b, .slice D9b i.b.length d9b]) r i := ⟨A9a, c9a, D9a, d9a, A9b, c9b, D9b, d9b, rfl, Oa.rw, Ob.rw, Oc.rw, Od.rw⟩
      clear Oa Ob Oc Od BX
      have LX := bal w9 (.cells #[.bool r.s, .slice A9a r.a.length c9a, .slice D9a r.b.length d9a, .bool i.s, .slice A9b i.a.length c9b, .slice D9b i.b.length d9b] 26)
      have S_v := SB.new w9 [.bool r.s, .slice A9a r.a.length c9a, .slice D9a r.b.length d9a, .bool i.s, .slice A9b i.a.length c9b, .slice D9b i.b.length d9b] 26
      replace H_a := H_a.st LX
      replace H_x := H_x.st LX
      replace H_l := H_l.st LX
      replace H_h := H_h.st LX
      replace H_u := H_u.st LX
      replace H_y := H_y.st LX
      replace H_z := H_z.st LX
      replace S_a := S_a.nx LX
      replace S_x := S_x.nx LX
      replace S_l := S_l.nx LX
      replace S_h := S_h.nx LX
      replace S_u := S_u.nx LX
      replace S_y := S_y.nx LX
      replace S_z := S_z.nx LX
      replace C0 := bt C0 LX
      replace H_v := H_v.st LX
      clear LX
      have a_0 := S_a.cell 0
      have a_1 := S_a.cell 1
      have a_2 := S_a.cell 2
      have a_3 := S_a.cell 3
      have a_4 := S_a.cell 4
      have a_5 := S_a.cell 5
      have x_0 := S_x.cell 0
      have x_1 := S_x.cell 1
      have x_2 := S_x.cell 2
      have x_3 := S_x.cell 3
      have x_4 := S_x.cell 4
      have x_5 := S_x.cell 5
      go_wp2_with fail
      clear a_0 a_1 a_2 a_3 a_4 a_5 x_0 x_1 x_2 x_3 x_4 x_5
      obtain ⟨v9, hv9⟩ : ∃ v9, v9 = w9.alloc (.cells #[.bool r.s, .slice A9a r.a.length c9a, .slice D9a r.b.length d9a, .bool i.s, .slice A9b i.a.length c9b, .slice D9b i.b.length d9b] 26) := ⟨_, rfl⟩
      rw [← hv9] at H_a S_a H_x S_x H_l S_l H_h S_h H_u S_u H_y S_y H_z S_z H_v S_v C0 ⊢
      obtain ⟨g9, hg9⟩ : ∃ g9, w9.heap.size = g9 := ⟨_, rfl⟩
      rw [hg9] at S_v ⊢
      clear hv9 hg9
      refine (osm _ _ _ H_x H_a).mono ?_; rintro e ws0 ⟨rfl, BX⟩
      replace H_a := H_a.st BX
      replace H_x := H_x.st BX
      replace H_l := H_l.st BX
      replace H_h := H_h.st BX
      replace H_u := H_u.st BX
      replace H_y := H_y.st BX
      replace H_z := H_z.st BX
      replace H_v := H_v.st BX
      replace S_a := S_a.nx BX
      replace S_x := S_x.nx BX
      replace S_l := S_l.nx BX
      replace S_h := S_h.nx BX
      replace S_u := S_u.nx BX
      replace S_y := S_y.nx BX
      replace S_z := S_z.nx BX
      replace S_v := S_v.nx BX
      replace C0 := bt C0 BX
      clear BX
      have a_0 := S_a.cell 0
      have a_1 := S_a.cell 1
      have a_2 := S_a.cell 2
      have a_3 := S_a.cell 3
      have a_4 := S_a.cell 4
      have a_5 := S_a.cell 5
      have y_0 := S_y.cell 0
      have y_1 := S_y.cell 1
      have y_2 := S_y.cell 2
      have y_3 := S_y.cell 3
      have y_4 := S_y.cell 4
      have y_5 := S_y.cell 5
      go_wp2_with fail
      clear a_0 a_1 a_2 a_3 a_4 a_5 y_0 y_1 y_2 y_3 y_4 y_5
      refine (osm _ _ _ H_y H_a).mono ?_; rintro e ws1 ⟨rfl, BX⟩
      replace H_a := H_a.st BX
      replace H_x := H_x.st BX
      replace H_l := H_l.st BX
      replace H_h := H_h.st BX
      replace H_u := H_u.st BX
      replace H_y := H_y.st BX
      replace H_z := H_z.st BX
      replace H_v := H_v.st BX
      replace S_a := S_a.nx BX
      replace S_x := S_x.nx BX
      replace S_l := S_l.nx BX
      replace S_h := S_h.nx BX
      replace S_u := S_u.nx BX
      replace S_y := S_y.nx BX
      replace S_z := S_z.nx BX
      replace S_v := S_v.nx BX
      replace C0 := bt C0 BX
      clear BX
      have a_0 := S_a.cell 0
      have a_1 := S_a.cell 1
      have a_2 := S_a.cell 2
      have a_3 := S_a.cell 3
      have a_4 := S_a.cell 4
      have a_5 := S_a.cell 5
      have z_0 := S_z.cell 0
      have z_1 := S_z.cell 1
      have z_2 := S_z.cell 2
      have z_3 := S_z.cell 3
      have z_4 := S_z.cell 4
      have z_5 := S_z.cell 5
      go_wp2_with fail
      clear a_0 a_1 a_2 a_3 a_4 a_5 z_0 z_1 z_2 z_3 z_4 z_5
      refine (osm _ _ _ H_z H_a).mono ?_; rintro e ws2 ⟨rfl, BX⟩
      replace H_a := H_a.st BX
      replace H_x := H_x.st BX
      replace H_l := H_l.st BX
      replace H_h := H_h.st BX
      replace H_u := H_u.st BX
      replace H_y := H_y.st BX
      replace H_z := H_z.st BX
      replace H_v := H_v.st BX
      replace S_a := S_a.nx BX
      replace S_x := S_x.nx BX
      replace S_l := S_l.nx BX
      replace S_h := S_h.nx BX
      replace S_u := S_u.nx BX
      replace S_y := S_y.nx BX
      replace S_z := S_z.nx BX
      replace S_v := S_v.nx BX
      replace C0 := bt C0 BX
      clear BX
      have a_0 := S_a.cell 0
      have a_1 := S_a.cell 1
      have a_2 := S_a.cell 2
      have a_3 := S_a.cell 3
      have a_4 := S_a.cell 4
      have a_5 := S_a.cell 5
      have v_0 := S_v.cell 0
      have v_1 := S_v.cell 1
      have v_2 := S_v.cell 2
      have v_3 := S_v.cell 3
      have v_4 := S_v.cell 4
      have v_5 := S_v.cell 5
      go_wp2_with fail
      clear a_0 a_1 a_2 a_3 a_4 a_5 v_0 v_1 v_2 v_3 v_4 v_5
      refine (osm _ _ _ H_v H_a).mono ?_; rintro e ws3 ⟨rfl, BX⟩
      replace H_a := H_a.st BX
      replace H_x := H_x.st BX
      replace H_l := H_l.st BX
      replace H_h := H_h.st BX
      replace H_u := H_u.st BX
      replace H_y := H_y.st BX
      replace H_z := H_z.st BX
      replace H_v := H_v.st BX
      replace S_a := S_a.nx BX
      replace S_x := S_x.nx BX
      replace S_l := S_l.nx BX
      replace S_h := S_h.nx BX
      replace S_u := S_u.nx BX
      replace S_y := S_y.nx BX
      replace S_z := S_z.nx BX
      replace S_v := S_v.nx BX
      replace C0 := bt C0 BX
      clear BX
      go_wp2_with fail
      go_ret
      exact ⟨rfl, C0⟩
    · have tn : (500 : Int) < n := by omega
      subst hE
      clear hn hfacts
      go_wp2_with fail
      refine (wake9_any _).mono ?_; rintro e w4 ⟨rfl, BX⟩
      go_wp2_with fail
      go_ret
      exact ⟨rfl, bt C0 BX⟩
  · have te : (E != 0) = true := bne_iff_ne.2 hE
    clear hE hfacts
    go_wp2_with fail
    refine (wake9_any _).mono ?_; rintro e w4 ⟨rfl, BX⟩
    go_wp2_with fail
    go_ret
    exact ⟨rfl, bt C0 BX⟩
end Go.Proofs.YtbgggepdlkbpoaaGreatDoor
