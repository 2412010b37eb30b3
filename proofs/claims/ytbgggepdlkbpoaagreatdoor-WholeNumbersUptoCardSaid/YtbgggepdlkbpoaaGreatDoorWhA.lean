/- Walks: a strings.Builder within a writer: written once, then told. -/
import Derived.Test.YtbgggepdlkbpoaaGreatDoorGJ
import Derived.Lib.Builder
import Derived.Lib.AppendStr
import Derived.Lib.UnsafeStr
namespace Go.Proofs.YtbgggepdlkbpoaaGreatDoor
open Go.RowKit

theorem sizeB2 : (Tryz.prog.info? 102).map (·.size) = some 2 := by kernel_rfl
theorem liesB : liesAt Tryz.prog Tryz.prog.depth 104 (3 / Tryz.prog.cellsOf 104) 0 102 1 = true := by kernel_rfl
set_option maxRecDepth 100000 in
set_option maxHeartbeats 2000000 in
theorem copycheck_new (g : Nat) (w : World) (h0 : w.cell? ⟨g, 0, none⟩ = some (.pointer none)) (hsh : w.shape? g = some (104, 3)) (hfz : w.frozen? ⟨g, 0, none⟩ = false) :
    Calls Tryz.prog 87 #[.pointer (some ⟨g, 0, none⟩)] w fun e w' => e = .returned (.tuple #[]) ∧ w' = w.setCell ⟨g, 0, none⟩ (.pointer (some ⟨g, 0, none⟩)) := by
  obtain ⟨j, hj, hjs⟩ := Option.map_eq_some_iff.1 sizeB2
  go_enter Tryz.func87, Tryz.ntmps87
  go_wp2_with fail
  rw [Lib.run_to_unsafe w ⟨g, 0, none⟩ Tryz.underlying100 Tryz.underlying139 hj (by rw [hjs]; decide) hsh (by show 0 < 3; omega)]
  simp only [Result.andThen]
  rw [Oper.upon_value]
  go_wp2_with fail
  rw [run_callFunc_extern Tryz.func101 (by kernel_rfl) (by kernel_rfl) (by kernel_rfl) (e := Extern.AbiNoEscape.same) (by kernel_rfl)]
  rw [Lib.run_noEscape]
  simp only [Result.andThen]
  rw [Oper.upon_value]
  go_wp2_with fail
  rw [Lib.run_from_unsafe w ⟨g, 0, none⟩ Tryz.underlying139 Tryz.underlying100 hj hsh liesB]
  simp only [Result.andThen]
  rw [Oper.upon_value]
  go_wp2_with fail
  go_end0
  exact ⟨rfl, rfl⟩
theorem cells_of {w : World} {g : Nat} {cs : List Value} {T : TypeId} (h : w.heap[g]? = some (.cells cs.toArray T (0, 0))) : SB w g cs := by
  have hl : g < w.heap.size := by
    rcases Nat.lt_or_ge g w.heap.size with h1 | h1
    · exact h1
    · rw [Array.getElem?_eq_none h1] at h; cases h
  refine ⟨fun i v hv => ⟨?_, ?_⟩, hl⟩
  · rw [cell_of_row _ _ _ _ _ _ h]; simpa using hv
  · unfold World.frozen?; rw [h]; rfl
theorem shape_of {w : World} {g n : Nat} {cs : List Value} {T : TypeId} (h : w.heap[g]? = some (.cells cs.toArray T (0, 0))) (hn : cs.length = n) : w.shape? g = some (T, n) := by
  simp [World.shape?, h, hn]
/-- append(nil, s...), its answer known -/
theorem wp_appS (w : World) {ops : Array Oper} {rest : List Oper} {o : Oper} {a : Act} {Q : Exit → Act → World → Prop}
    (hg : o.guard = none) (y x : Operand) (hop : o.op = Op.call { callee := Callee.builtin Builtin.append, args := #[y, x], argTypes := #[31, 9] }) (ht : o.type = 31)
    (u v : Value) (hy : a.eval y = u) (hx : a.eval x = v) (v' : Value) (w2 : World) (hrun : (Builtin.append_ #[31, 9] 31 #[u, v]).run Tryz.prog w = .ok v' w2)
    (hK : wpList Tryz.prog ops Q rest (a.put o.dst v') w2) : wpList Tryz.prog ops Q (o :: rest) a w := by
  refine wpList_plain hg fun K hK' => ?_
  unfold Oper.wp execOp
  simp only [hop, ht, resolve, invoke, builtin, Sem.run_bind, Sem.run_pure, Result.andThen_ok, List.map_toArray, List.map_cons, List.map_nil, hy, hx, hrun]
  exact hK' _ _ hK
/-- bytes as cells -/
theorem strCells_eq (s : ByteArray) : Lib.strCells s = s.data.toList.map f8 := by
  rfl
set_option maxRecDepth 100000 in
set_option maxHeartbeats 4000000 in
/-- the first text written -/
theorem writestring_new (g : Nat) (b : Value) (s : ByteArray) (w : World) (S : w.heap[g]? = some (.cells #[.pointer none, .slice none 0 0, b] 104 (0, 0))) (h0 : s.size ≠ 0) (hs : s.size ≤ 1000000) :
    Calls Tryz.prog 76 #[.pointer (some ⟨g, 0, none⟩), .string s] w fun e w' => e = .returned (.tuple #[.int .i64 (s.size : Int), .nilIface]) ∧
      (∃ h c, SB w' g [.pointer (some ⟨g, 0, none⟩), .slice (some ⟨h, 0, none⟩) s.size c, b] ∧ OB w' w.heap.size (some ⟨h, 0, none⟩) c s.data.toList ∧ w.heap.size ≤ h) ∧ FarW g w w' := by
  have SS : SB w g [.pointer none, .slice none 0 0, b] := cells_of (cs := [.pointer none, .slice none 0 0, b]) S
  have hl := s_len s
  have hcc := copycheck_new g w (SS.cell 0) (shape_of (cs := [.pointer none, .slice none 0 0, b]) S rfl) (SS.frozen 0)
  have S1 := SS.set 0 (.pointer (some ⟨g, 0, none⟩))
  have F1 := (FarW.refl g w).set 0 (.pointer (some ⟨g, 0, none⟩))
  have hsz1 : (w.setCell ⟨g, 0, none⟩ (.pointer (some ⟨g, 0, none⟩))).heap.size = w.heap.size := by simp [World.setCell]
  obtain ⟨w1, hw1⟩ : ∃ w1, w1 = w.setCell ⟨g, 0, none⟩ (.pointer (some ⟨g, 0, none⟩)) := ⟨_, rfl⟩
  rw [← hw1] at S1 F1 hcc hsz1
  clear hw1
  obtain ⟨i0, hi, hz0, hz1, hz2⟩ := info_parts infoB
  obtain ⟨v', w2, hrun, hown, hgrow, hnil⟩ := Lib.run_append_own_string (P := Tryz.prog) (w := w1) w1.heap.size 31 9 31 5 i0 Tryz.underlying31 Tryz.underlying9 hi hz0 hz1 hz2 (.slice none 0 0) 0 [] (by simpa using World.ownsRow_nil w1 w1.heap.size 5 1) s (by unfold maxLen; omega) (by omega) (Nat.le_refl _)
  rw [Nat.zero_add, List.nil_append, strCells_eq] at hown
  obtain ⟨h, c, rfl, hh⟩ : ∃ h c, v' = .slice (some ⟨h, 0, none⟩) s.size c ∧ w1.heap.size ≤ h := by
    rcases hown.2 with ⟨hv, hz⟩ | ⟨h, c, cur, hv, hb, _⟩
    · exact absurd hz h0
    · exact ⟨h, c, hv, hb⟩
  have B2 : Below w1.heap.size w1 w2 := (Below.refl _ _).grown hgrow (Nat.le_refl _) (fun k hk => by simp [Value.ownBlock] at hk)
  have S2 := S1.nx B2
  have hO : OB w2 w1.heap.size (some ⟨h, 0, none⟩) c s.data.toList := ⟨by rw [hl]; exact hown, by rw [hl]; omega⟩
  have S3 := S2.set 1 (.slice (some ⟨h, 0, none⟩) s.size c)
  have F3 := (F1.nx B2 (by have := S1.lt; omega)).set 1 (.slice (some ⟨h, 0, none⟩) s.size c)
  have hO3 : OB (w2.setCell ⟨g, 1, none⟩ (.slice (some ⟨h, 0, none⟩) s.size c)) w1.heap.size (some ⟨h, 0, none⟩) c s.data.toList := OL.far hO (p := ⟨g, 1, none⟩) (fun k hk => by cases hk; have := S1.lt; show h ≠ g; omega) _
  have k1 := S1.cell 1
  have k2 := S2.cell 1
  have kf := S2.frozen 1
  clear hown hgrow hnil
  go_enter Tryz.func76, Tryz.ntmps76
  go_wp2_with fail
  refine hcc.mono ?_; rintro e w' ⟨rfl, rfl⟩
  go_wp2_with (at_builtin; refine wp_appS _ rfl _ _ rfl rfl _ _ rfl rfl _ _ hrun ?_)
  go_ret2
  exact ⟨rfl, ⟨h, c, S3, by rw [← hsz1]; exact hO3, by omega⟩, F3⟩
theorem cellsByte : Tryz.prog.cellsOf 5 = 1 := by kernel_rfl
set_option maxRecDepth 100000 in
set_option maxHeartbeats 4000000 in
/-- what was written -/
theorem string_told (g h c n : Nat) (b : Value) (l : List UInt8) (base : Nat) (w : World) (S : SB w g [.pointer (some ⟨g, 0, none⟩), .slice (some ⟨h, 0, none⟩) n c, b]) (hn : n = l.length) (hO : OB w base (some ⟨h, 0, none⟩) c l) (h0 : l ≠ []) (hb : base ≤ h) :
    Calls Tryz.prog 64 #[.pointer (some ⟨g, 0, none⟩)] w fun e w' => e = .returned (.string ⟨l.toArray⟩) ∧ Below base w w' := by
  subst hn
  have hl0 : l.length ≠ 0 := by simpa using h0
  have hbig := OL.big hO
  obtain ⟨cur, hg, hnc, hcm, hcs, htake⟩ : ∃ cur, w.heap[h]? = some (.cells cur 5 (0, 0)) ∧ l.length ≤ c ∧ c ≤ maxLen ∧ cur.size = c * 1 ∧ cur.toList.take (l.length * 1) = l.map f8 := by
    rcases hO.1.2 with ⟨hv, hz⟩ | ⟨k, cap, cur, hv, r⟩
    · exact absurd hz hl0
    · cases hv; exact ⟨cur, r.2⟩
  have c1 : w.drew.cell? ⟨g, 1, none⟩ = some (.slice (some ⟨h, 0, none⟩) l.length c) := S.cell 1
  have hSD : (Builtin.unsafeSliceData_ #[31] 127 #[.slice (some ⟨h, 0, none⟩) l.length c]).run Tryz.prog w.drew = .ok (.pointer (some ⟨h, 0, none⟩)) w.drew :=
    Lib.run_unsafeSliceData_row _ _ _ _ _ _ (by omega)
  have hUS : (Builtin.unsafeString_ #[127, 3] 9 #[.pointer (some ⟨h, 0, none⟩), .int .i64 l.length]).run Tryz.prog w.drew = .ok (.string ⟨l.toArray⟩) (w.drew.freeze ⟨h, 0, none⟩ l.length) := by
    refine Lib.run_unsafeString_row w.drew 127 3 9 5 Tryz.underlying127 cellsByte h cur.size (by have hg' : w.drew.heap[h]? = some (.cells cur 5 (0, 0)) := hg; simp [World.shape?, hg']) l h0 (by omega) (by omega) ?_
    intro j x hx
    have := OL.cell hO hx
    rw [Addr.add_lit, Nat.zero_add]
    exact this
  clear hg hcs htake hcm
  go_enter Tryz.func64, Tryz.ntmps64
  go_wp2_with fail
  go_region
  all_goals (go_wp2_with fail; go_ret; exact ⟨rfl, Lib.below_freeze (Below.drew (Below.refl base w)) (p := ⟨h, 0, none⟩) hb _⟩)
end Go.Proofs.YtbgggepdlkbpoaaGreatDoor
