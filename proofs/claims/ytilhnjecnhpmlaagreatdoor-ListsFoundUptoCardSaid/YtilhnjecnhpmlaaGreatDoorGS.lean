/- Merged texts: LisU, LisT. -/
import Derived.Test.YtilhnjecnhpmlaaGreatDoorGR
namespace Go.Proofs.YtilhnjecnhpmlaaGreatDoor
open Go.RowKit

theorem zero_one (j : Nat) (hj : j < 11) : ((Value.agg #[.int .i64 0, .int .i64 0, .bool false, .slice none 0 0, .slice none 0 0, .bool false, .slice none 0 0, .slice none 0 0, .string { data := #[] }, .slice none 0 0, .slice none 0 0]).cells[j]!).oneCell' = true := by
  match j, hj with
  | 0, _ => rfl
  | 1, _ => rfl
  | 2, _ => rfl
  | 3, _ => rfl
  | 4, _ => rfl
  | 5, _ => rfl
  | 6, _ => rfl
  | 7, _ => rfl
  | 8, _ => rfl
  | 9, _ => rfl
  | 10, _ => rfl
  | j + 11, h => omega
/-- clear of a slice of data -/
theorem wp_clearD (w : World) {ops : Array Oper} {rest : List Oper} {o : Oper} {a : Act} {Q : Exit → Act → World → Prop} (hg : o.guard = none) (hd : o.dst = none) (x : Operand)
    (hop : o.op = Op.call { callee := Callee.builtin Builtin.clear, args := #[x], argTypes := #[28] })
    (g off n c : Nat) (hx : a.eval x = .slice (some ⟨g, off, none⟩) n c) (hn : 0 < n) (hc : ∀ j, j < n * 11 → (w.cell? ⟨g, off + j, none⟩).isSome = true ∧ w.frozen? ⟨g, off + j, none⟩ = false)
    (hK : ∀ cs : List Value, cs.length = n * 11 → wpList Tryz.prog ops Q rest a (w.setCells g off cs)) : wpList Tryz.prog ops Q (o :: rest) a w := by
  obtain ⟨i, hi, hz0, hi1, h2⟩ := info_parts infoDf
  refine wpList_plain hg fun K hK' => ?_
  have hzl : (Builtin.zeroCells (Value.agg #[.int .i64 0, .int .i64 0, .bool false, .slice none 0 0, .slice none 0 0, .bool false, .slice none 0 0, .slice none 0 0, .string { data := #[] }, .slice none 0 0, .slice none 0 0]).cells n).toList.length = n * 11 := by
    rw [Array.length_toList, size_zeroCells]; rfl
  have hzv : ∀ w : World, (zeroValue 30).run Tryz.prog w = .ok (.agg #[.int .i64 0, .int .i64 0, .bool false, .slice none 0 0, .slice none 0 0, .bool false, .slice none 0 0, .slice none 0 0, .string { data := #[] }, .slice none 0 0, .slice none 0 0]) w := fun w => by simp [zeroValue, typeInfo, hi, hz0]
  have hst := run_storeCells_cells (P := Tryz.prog) g off (Builtin.zeroCells (Value.agg #[.int .i64 0, .int .i64 0, .bool false, .slice none 0 0, .slice none 0 0, .bool false, .slice none 0 0, .slice none 0 0, .string { data := #[] }, .slice none 0 0, .slice none 0 0]).cells n).toList 0 w (fun j hj => by simpa using (hc j (by rw [← hzl]; exact hj)).1) (fun j hj => by simpa using (hc j (by rw [← hzl]; exact hj)).2) (by
    intro v hv
    obtain ⟨j, hj⟩ := List.getElem_of_mem hv
    obtain ⟨hj, rfl⟩ := hj
    rw [Array.getElem_toList]
    simp only [Builtin.zeroCells, Array.getElem_map, Array.getElem_range]
    exact zero_one _ (Nat.mod_lt _ (by decide)))
  simp only [Nat.add_zero] at hst
  have hrun : (Builtin.clear_ #[28] o.type #[.slice (some ⟨g, off, none⟩) n c]).run Tryz.prog w = .ok (.tuple #[]) (w.setCells g off (Builtin.zeroCells (Value.agg #[.int .i64 0, .int .i64 0, .bool false, .slice none 0 0, .slice none 0 0, .bool false, .slice none 0 0, .slice none 0 0, .string { data := #[] }, .slice none 0 0, .slice none 0 0]).cells n).toList) := by
    obtain ⟨m, rfl⟩ : ∃ m, n = m + 1 := ⟨n - 1, by omega⟩
    simp [Builtin.clear_, run_underlying Tryz.underlying28, hzv, hst]
  unfold Oper.wp execOp
  simp only [hop, resolve, invoke, builtin, Sem.run_bind, Sem.run_pure, Result.andThen_ok, List.map_toArray, List.map_cons, List.map_nil, hx, hrun]
  refine hK' _ _ ?_
  rw [hd]
  exact hK _ hzl
theorem RowM.cut {w : World} {Q : Nat → Prop} {g o : Nat} {l : List Dat} (h : RowM w Q g o l) (hQ : ∀ b, Q b → b < w.heap.size ∧ b ≠ g) (i : Nat) (cs : List Value) : RowM (w.setCells g (o + i * 11) cs) Q g o (l.take i) := fun k x hx => by
  rw [List.getElem?_take] at hx
  split at hx
  · rename_i hk
    obtain ⟨ds, h1, h2, h3⟩ := h k x hx
    refine ⟨ds, h1, ⟨fun j v hv => ?_, by rw [size_sc]; exact h2.2⟩, h3.step (fun b hz => World.heap_setCells_other w g _ cs (hQ b hz).1 (hQ b hz).2) (fun _ h => h)⟩
    have hj := (List.getElem?_eq_some_iff.1 hv).1
    obtain ⟨h4, h5⟩ := h2.1 j v hv
    refine ⟨(World.cell?_setCells_out g cs (o + i * 11) w ⟨g, o + k * 11 + j, none⟩ (fun _ _ => ?_)).trans h4, (World.frozen?_setCells g cs _ w _).trans h5⟩
    show o + k * 11 + j < o + i * 11 ∨ _
    have := Nat.mul_le_mul_right 11 (show k + 1 ≤ i from hk); left; omega
  · cases hx
/-- the first i of m are what is kept of the first j of l; from j on they are the same -/
def KeptAt_ (q : Dat → Bool) (l m : List Dat) (i j : Nat) : Prop := m.length = l.length ∧ i ≤ j ∧ m.take i = (l.take j).filter q ∧ ∀ k, j ≤ k → m[k]? = l[k]?
theorem KeptAt_.step_yes {q : Dat → Bool} {l m : List Dat} {i j : Nat} (h : KeptAt_ q l m i j) (hj : j < l.length) (hj2 : j < m.length) (hi : i < m.length) (hq : q l[j] = true) : KeptAt_ q l (m.set i m[j]) (i + 1) (j + 1) := by
  obtain ⟨h1, h2, h3, h4⟩ := h
  have he : m[j] = l[j] := by
    have := h4 j (Nat.le_refl _)
    rw [List.getElem?_eq_getElem hj2, List.getElem?_eq_getElem hj] at this
    exact Option.some.inj this
  refine ⟨by rw [List.length_set]; exact h1, by omega, ?_, fun k hk => ?_⟩
  · rw [List.take_succ_eq_append_getElem (by rw [List.length_set]; exact hi), List.take_set_of_le (Nat.le_refl _), h3, List.take_succ_eq_append_getElem hj, List.filter_append, List.getElem_set_self, he]
    simp [hq]
  · rw [List.getElem?_set_ne (by omega)]; exact h4 k (by omega)
theorem KeptAt_.step_no {q : Dat → Bool} {l m : List Dat} {i j : Nat} (h : KeptAt_ q l m i j) (hj : j < l.length) (hq : q l[j] = false) : KeptAt_ q l m i (j + 1) := by
  obtain ⟨h1, h2, h3, h4⟩ := h
  refine ⟨h1, by omega, ?_, fun k hk => h4 k (by omega)⟩
  rw [h3, List.take_succ_eq_append_getElem hj, List.filter_append]
  simp [hq]
theorem KeptAt_.start {q : Dat → Bool} {l : List Dat} {k : Nat} (hk : k < l.length) (h : ∀ i (hi : i < l.length), i < k → q l[i] = true) (hq : q l[k] = false) : KeptAt_ q l l k (k + 1) := by
  refine ⟨rfl, by omega, ?_, fun _ _ => rfl⟩
  rw [List.take_succ_eq_append_getElem hk, List.filter_append, List.filter_eq_self.2 (fun y hy => by
    obtain ⟨i, hi, rfl⟩ := List.mem_take_iff_getElem.1 hy
    exact h i (by omega) (by omega))]
  simp [hq]

set_option maxRecDepth 100000 in
set_option maxHeartbeats 16000000 in
theorem delete_r (A : Option Addr) (c : Nat) (l : List Dat) (g nx : Nat) (x : Dat) (cx : List Value) (w : World) (P : Nat → Prop) (hP : ∀ b, P b → b < g) (hgw : 0 < l.length → A = some ⟨g, 0, none⟩ ∧ g < w.heap.size) (hlc : l.length ≤ c) (hbig : l.length ≤ 10000) (M : RowM w P g 0 l) (hgs : g ≤ w.heap.size)
    (hx : cx.length = 11) (hnx : nx < g) (SX : SB w nx cx) (hX : RDP w P x (.agg cx.toArray)) (gx : x.Good vU) (hgl : ∀ y ∈ l, y.Good vU) :
    Calls Tryz.prog 27 #[.slice A l.length c, .func (.func 28) #[] #[.pointer (some ⟨nx, 0, none⟩)]] w fun e w' => ∃ c', e = .returned (.slice A (l.filter fun y => !sameD x y).length c') ∧ RowM w' P g 0 (l.filter fun y => !sameD x y) ∧ (l.filter fun y => !sameD x y).length ≤ c' ∧ Below g w w' := by
  have hPs : ∀ b, P b → b < w.heap.size := fun b hb => Nat.lt_of_lt_of_le (hP b hb) hgs
  obtain ⟨PL, hPL⟩ : ∃ PL : Nat → Prop, PL = fun b => P b ∨ (b = g ∧ g < w.heap.size) := ⟨_, rfl⟩
  have L0 : RLs w PL A c l := M.rls' hlc (by omega) (fun h => (hgw h).1) (fun b hb => by rw [hPL]; exact .inl hb) (fun h => by rw [hPL]; exact .inr ⟨rfl, (hgw h).2⟩)
  have hPLs : ∀ b, PL b → b < w.heap.size := fun b hb => by rw [hPL] at hb; exact hb.elim (hPs b) (fun h => by omega)
  go_enter Tryz.func27, Tryz.ntmps27
  go_wp2_with fail
  refine (index_r A c l w PL hPLs L0 x nx cx hx SX (hX.step (fun _ _ => rfl) (fun b hb => by rw [hPL]; exact .inl hb)) gx hgl).mono ?_
  rintro e w1 ⟨rfl, B1⟩
  have M := M.keep hPs B1
  have SX := SX.nx B1
  have RX := hX.keep hPs B1
  have hsz := B1.size
  have BB : Below g w w1 := B1.mono hgs
  clear L0 hPL hPLs B1
  rcases find_cases (fun y : Dat => sameD x y) l with ⟨hf, hall⟩ | ⟨k, hk, hf, hno, hyes⟩
  · have hfl : (l.filter fun y => !sameD x y) = l := List.filter_eq_self.2 fun y hy => by have := hall y hy; simpa using this
    rw [hf]
    replace hfl := Lib.hid hfl
    go_wp2_with fail
    go_ret
    rw [hfl.out]
    exact ⟨c, rfl, M, hlc, BB⟩
  · have hgw2 := (hgw (by omega)).2
    have hA := (hgw (by omega)).1
    clear hgw
    subst hA
    have hgw : g < w1.heap.size := by omega
    clear hgw2
    have hnx2 : nx ≠ g := by omega
    rw [hf]
    have K0 := KeptAt_.start (q := fun y => !sameD x y) hk (fun i hi h => by have := hno i hi h; simpa using this) (by simpa using hyes)
    have hkm : ((k : Int) == -1) = false := by
      simp
    clear hf hno hyes
    go_upto_region 5 with fail
    clear hkm
    go_loopg [5, 6] (l.length - (k + 1)) (fun gk s5 s6 wx => ∃ (i j : Nat) (m : List Dat), s5 = .int .i64 (i : Int) ∧ s6 = .int .i64 (j : Int) ∧ j ≤ l.length ∧ j + gk = l.length ∧ i < j ∧ KeptAt_ (fun y => !sameD x y) l m i j ∧ RowM wx P g 0 m ∧ SB wx nx cx ∧ RDP wx P x (.agg cx.toArray) ∧ Below g w wx ∧ g < wx.heap.size)
    case atStart => exact ⟨k, k + 1, l, rfl, by simp, by omega, by omega, by omega, K0, M, SX, RX, BB, hgw⟩
    case round =>
      clear K0 M SX RX BB hgw hsz hk
      obtain ⟨i, j, m, rfl, rfl, hjl, hgk, hij, KK, M, SX, RX, BB, hgw⟩ := hrel
      replace KK := Lib.hid KK
      have hml : m.length = l.length := KK.out.1
      have hN : g + 1 ≤ wr.heap.size := hgw
      by_cases hj : j < l.length
      · have hjm : j < m.length := by omega
        have him : i < m.length := by omega
        obtain ⟨cs, cl, so, re⟩ := M.at_ hjm
        match cs, cl with
        | [z0, z1, z2, z3, z4, z5, z6, z7, z8, z9, z10], _ =>
        obtain ⟨_, e2, _, oz⟩ := re.agg
        obtain rfl := congrArg Array.toList (Value.agg.inj e2)
        clear e2
        have hmj : m[j] = l[j] := by
          have := KK.out.2.2.2 j (Nat.le_refl _)
          rw [List.getElem?_eq_getElem hjm, List.getElem?_eq_getElem hj] at this
          exact Option.some.inj this
        have gy := hgl _ (List.getElem_mem hj)
        rw [← hmj] at gy
        have hyes : sameD x m[j] = false → _ := fun h => KK.out.step_yes hj hjm him (by rw [← hmj, h]; rfl)
        have hno : sameD x m[j] = true → _ := fun h => KK.out.step_no hj (by rw [← hmj, h]; rfl)
        replace hyes := Lib.hid hyes
        replace hno := Lib.hid hno
        clear hmj
        replace hml := Lib.hid hml
        have hjz : (j : Int) < (l.length : Int) := by omega
        have hiz : (i : Int) < (l.length : Int) := by omega
        have k0 : wr.cell? ⟨g, j * 11, none⟩ = some z0 := (by simpa using so.cell 0); have k1 : wr.cell? ⟨g, j * 11 + 1, none⟩ = some z1 := (by simpa using so.cell 1); have k2 : wr.cell? ⟨g, j * 11 + 2, none⟩ = some z2 := (by simpa using so.cell 2); have k3 : wr.cell? ⟨g, j * 11 + 3, none⟩ = some z3 := (by simpa using so.cell 3); have k4 : wr.cell? ⟨g, j * 11 + 4, none⟩ = some z4 := (by simpa using so.cell 4); have k5 : wr.cell? ⟨g, j * 11 + 5, none⟩ = some z5 := (by simpa using so.cell 5); have k6 : wr.cell? ⟨g, j * 11 + 6, none⟩ = some z6 := (by simpa using so.cell 6); have k7 : wr.cell? ⟨g, j * 11 + 7, none⟩ = some z7 := (by simpa using so.cell 7); have k8 : wr.cell? ⟨g, j * 11 + 8, none⟩ = some z8 := (by simpa using so.cell 8); have k9 : wr.cell? ⟨g, j * 11 + 9, none⟩ = some z9 := (by simpa using so.cell 9); have k10 : wr.cell? ⟨g, j * 11 + 10, none⟩ = some z10 := (by simpa using so.cell 10)
        have Sg := SB.new wr [.int .i64 0, .int .i64 0, .bool false, .slice none 0 0, .slice none 0 0, .bool false, .slice none 0 0, .slice none 0 0, .string { data := #[] }, .slice none 0 0, .slice none 0 0] 30
        obtain ⟨w4, hw4⟩ : ∃ w4, w4 = (wr.alloc (.cells #[.int .i64 0, .int .i64 0, .bool false, .slice none 0 0, .slice none 0 0, .bool false, .slice none 0 0, .slice none 0 0, .string { data := #[] }, .slice none 0 0, .slice none 0 0] 30)).setCells wr.heap.size 0 [z0, z1, z2, z3, z4, z5, z6, z7, z8, z9, z10] := ⟨_, rfl⟩
        have Bw4 : Below wr.heap.size wr w4 := by rw [hw4]; exact below_cso (bal wr _) (Nat.le_refl _) 0 [z0, z1, z2, z3, z4, z5, z6, z7, z8, z9, z10]
        have S4 : SB w4 wr.heap.size [z0, z1, z2, z3, z4, z5, z6, z7, z8, z9, z10] := by rw [hw4]; exact Sg.cells [z0, z1, z2, z3, z4, z5, z6, z7, z8, z9, z10] rfl
        have hgwr : g + 1 ≤ wr.heap.size := hN
        replace hw4 := Lib.hid hw4
        go_upto_region 8 with (refine wp_stD rfl rfl (.tmp 7) (.tmp 25) rfl wr.heap.size rfl [z0, z1, z2, z3, z4, z5, z6, z7, z8, z9, z10] rfl rfl _ Sg rfl oz ?_; rw [← hw4.out]; clear hw4)
        clear Sg so
        clear k0 k1 k2 k3 k4 k5 k6 k7 k8 k9 k10
        have SX := SX.nx Bw4
        have RX := RX.keep (fun b hb => Nat.lt_of_lt_of_le (hP b hb) (by omega)) Bw4
        have re := re.keep (fun b hb => Nat.lt_of_lt_of_le (hP b hb) (by omega)) Bw4
        have M := M.keep (fun b hb => Nat.lt_of_lt_of_le (hP b hb) (by omega)) Bw4
        have BB := BB.trans (Bw4.mono (by omega))
        have hN := Nat.le_trans hN Bw4.size
        have i0 := S4.cell 0; have i1 := S4.cell 1; have i2 := S4.cell 2; have i3 := S4.cell 3; have i4 := S4.cell 4; have i5 := S4.cell 5; have i6 := S4.cell 6; have i7 := S4.cell 7; have i8 := S4.cell 8; have i9 := S4.cell 9; have i10 := S4.cell 10
        generalize hy : m[j] = y at *
        go_wp2_with fail
        refine (remove1_any x y _ nx cx w4 P (fun z hz => by have := hP z hz; omega) hx SX RX re gx gy).mono ?_
        rintro e w5 ⟨rfl, B5⟩
        clear i0 i1 i2 i3 i4 i5 i6 i7 i8 i9 i10
        have SX := SX.nx B5
        have RX := RX.keep (fun b hb => Nat.lt_of_lt_of_le (hP b hb) (by omega)) B5
        have re := re.keep (fun b hb => Nat.lt_of_lt_of_le (hP b hb) (by omega)) B5
        have M := M.keep (fun b hb => Nat.lt_of_lt_of_le (hP b hb) (by omega)) B5
        have BB := BB.trans (B5.mono (by omega))
        have S4 := S4.nx B5
        have hN := Nat.le_trans hN B5.size
        have hg5 : g < w5.heap.size := by omega
        obtain ⟨z, hz⟩ : ∃ z, Hid (sameD x y = z) := ⟨_, Lib.hid rfl⟩
        rw [hz.out]
        cases z with
        | true =>
          have KN := hno.out hz.out
          go_upto_region 6 with fail
          go_wp2_with fail
          go_roundg (l.length - (j + 1))
          case measure => omega
          case rel => exact ⟨i, j + 1, m, rfl, by simp, by omega, by omega, by omega, KN, M, SX, RX, BB, hg5⟩
        | false =>
          have KN := hyes.out hz.out
          have hml2 := hml.out
          obtain ⟨ds, dl, do_, -⟩ := M.at_ (i := i) (by omega)
          have th : w5.there g (i * 11) 11 := fun q hq => by
            have := do_.1 q _ (List.getElem?_eq_getElem (by omega))
            rw [Nat.zero_add] at this
            exact ⟨by rw [this.1]; rfl, this.2⟩
          clear hml2
          have i0 := S4.cell 0; have i1 := S4.cell 1; have i2 := S4.cell 2; have i3 := S4.cell 3; have i4 := S4.cell 4; have i5 := S4.cell 5; have i6 := S4.cell 6; have i7 := S4.cell 7; have i8 := S4.cell 8; have i9 := S4.cell 9; have i10 := S4.cell 10
          go_upto_region 10 with (refine wp_stDo rfl rfl (.tmp 33) (.tmp 32) rfl g (i * 11) rfl [z0, z1, z2, z3, z4, z5, z6, z7, z8, z9, z10] rfl rfl th oz ?_)
          clear i0 i1 i2 i3 i4 i5 i6 i7 i8 i9 i10
          have M := M.set (fun b hb => ⟨by have := hP b hb; omega, by have := hP b hb; omega⟩) (i := i) (by have := hml.out; omega) (y := y) rfl re
          rw [Nat.zero_add] at M
          have SX : SB (w5.setCells g (i * 11) [z0, z1, z2, z3, z4, z5, z6, z7, z8, z9, z10]) nx cx := SX.scs (by omega) _ _
          have RX : RDP (w5.setCells g (i * 11) [z0, z1, z2, z3, z4, z5, z6, z7, z8, z9, z10]) P x (.agg cx.toArray) := RX.step (fun z hz => World.heap_setCells_other w5 g _ _ (by have := hP z hz; omega) (by have := hP z hz; omega)) (fun _ h => h)
          have BB := below_cso BB (b := g) (Nat.le_refl _) (i * 11) [z0, z1, z2, z3, z4, z5, z6, z7, z8, z9, z10]
          have hg5 : g < (w5.setCells g (i * 11) [z0, z1, z2, z3, z4, z5, z6, z7, z8, z9, z10]).heap.size := by rw [size_sc]; exact hg5
          generalize w5.setCells g (i * 11) [z0, z1, z2, z3, z4, z5, z6, z7, z8, z9, z10] = w6 at *
          go_upto_region 6 with fail
          go_wp2_with fail
          go_roundg (l.length - (j + 1))
          case measure => omega
          case rel => exact ⟨i + 1, j + 1, _, by simp, by simp, by omega, by omega, by omega, KN, M, SX, RX, BB, hg5⟩
      · have hjz : ¬ (j : Int) < (l.length : Int) := by omega
        obtain rfl : j = l.length := by omega
        have hil : i < l.length := hij
        have hml : m.length = l.length := KK.out.1
        have hfin : m.take i = l.filter fun y => !sameD x y := by have := KK.out.2.2.1; rwa [List.take_length] at this
        have hfl : (l.filter fun y => !sameD x y).length = i := by rw [← hfin, List.length_take]; omega
        have hcl : ∀ q, q < (l.length - i) * 11 → (wr.cell? ⟨g, i * 11 + q, none⟩).isSome = true ∧ wr.frozen? ⟨g, i * 11 + q, none⟩ = false := fun q hq => by
          have hd := Nat.div_add_mod q 11
          have hm := Nat.mod_lt q (show 0 < 11 by decide)
          obtain ⟨cs, cl, so, -⟩ := M.at_ (i := i + q / 11) (by have := Nat.div_lt_iff_lt_mul (show 0 < 11 by decide) |>.2 hq; omega)
          have := so.1 (q % 11) _ (List.getElem?_eq_getElem (by omega))
          rw [show 0 + (i + q / 11) * 11 + q % 11 = i * 11 + q by omega] at this
          exact ⟨by rw [this.1]; rfl, this.2⟩
        have Mc := fun cs => M.cut (fun b hb => ⟨by have := hP b hb; omega, by have := hP b hb; omega⟩) i cs
        rw [hfin] at Mc
        have hci : ¬ c = i := by omega
        have hiz : (i : Int) ≤ (l.length : Int) := by omega
        have hlp : 0 < l.length - i := by omega
        replace hfl := Lib.hid hfl
        clear hfin KK
        replace hml := Lib.hid hml
        go_upto_region 12 with (refine wp_clearD _ rfl rfl _ rfl g (i * 11) (l.length - i) _ rfl hlp hcl ?_; intro zs _)
        have Mc := Mc zs
        rw [Nat.zero_add] at Mc
        have BB := below_cso BB (b := g) (Nat.le_refl _) (i * 11) zs
        generalize wr.setCells g (i * 11) zs = w6 at *
        go_wp2_with fail
        go_ret
        rw [hfl.out]
        exact ⟨c, rfl, Mc, by omega, BB⟩

/-- the answer of Remove -/
noncomputable def remD (x d : Dat) : Dat := if foundE x d = 0 then fitD (joinD ((foundL x d).filter fun y => !sameD x y) nilD) else zeroD
noncomputable def remE (x d : Dat) : Int := if foundE x d = 0 then fitE (joinD ((foundL x d).filter fun y => !sameD x y) nilD) else foundE x d
theorem rem_err {x d : Dat} (h : foundE x d ≠ 0) : remD x d = zeroD ∧ remE x d = foundE x d := by unfold remD remE; rw [if_neg h, if_neg h]; exact ⟨rfl, rfl⟩
theorem rem_ok {x d : Dat} {l : List Dat} (h : foundE x d = 0) (hl : foundL x d = l) : remD x d = fitD (joinD (l.filter fun y => !sameD x y) nilD) ∧ remE x d = fitE (joinD (l.filter fun y => !sameD x y) nilD) := by
  unfold remD remE; rw [if_pos h, if_pos h, hl]; exact ⟨rfl, rfl⟩
theorem rem_fit {x d : Dat} (h : foundE x d = 0) : fitD (joinD ((foundL x d).filter fun y => !sameD x y) nilD) = joinD ((foundL x d).filter fun y => !sameD x y) nilD ∧ fitE (joinD ((foundL x d).filter fun y => !sameD x y) nilD) = 0 := by
  rcases foundE_cases x d with he | he | ⟨_, _, hd, hL⟩
  · rw [he] at h; cases h
  · rw [he] at h; cases h
  · rw [hL]; exact fit_yes (sub_sound vU_nil (listL_back hd) List.filter_sublist)

end Go.Proofs.YtilhnjecnhpmlaaGreatDoor
namespace Go.Proofs.YtilhnjecnhpmlaaGreatDoor
open Go.RowKit

/-- a pair's first -/
def carD (y : Dat) : Dat := y.l.headD nilD
noncomputable def keyD (x : Dat) (l : List Dat) : Nat := l.findIdx fun y => sameD x (carD y)
theorem key_hit {x : Dat} {l : List Dat} {k : Nat} (hk : k < l.length) (h : ∀ i (hi : i < l.length), i < k → x ≠ carD l[i]) (he : x = carD l[k]) : keyD x l = k := by
  unfold keyD
  rw [List.findIdx_eq hk]
  exact ⟨same_yes he, fun j hj => same_no (h j (by omega) hj)⟩
theorem key_none {x : Dat} {l : List Dat} (h : ∀ i (hi : i < l.length), x ≠ carD l[i]) : keyD x l = l.length := by
  unfold keyD
  refine List.findIdx_eq_length.2 fun y hy => ?_
  obtain ⟨i, hi, rfl⟩ := List.getElem_of_mem hy
  exact same_no (h i hi)
/-- the answers of Assoc -/
noncomputable def assD (x d : Dat) : Dat := if foundE x d = 0 then if pairsB (foundL x d) = true then if keyD x (foundL x d) < (foundL x d).length then (foundL x d).getD (keyD x (foundL x d)) nilD else zeroD else zeroD else zeroD
noncomputable def assE (x d : Dat) : Int := if foundE x d = 0 then if pairsB (foundL x d) = true then if keyD x (foundL x d) < (foundL x d).length then 0 else 7 else 10 else foundE x d
theorem ass_err {x d : Dat} (h : foundE x d ≠ 0) : assD x d = zeroD ∧ assE x d = foundE x d := by unfold assD assE; rw [if_neg h, if_neg h]; exact ⟨rfl, rfl⟩
theorem ass_type {x d : Dat} {l : List Dat} (h : foundE x d = 0) (hl : foundL x d = l) (hp : pairsB l = false) : assD x d = zeroD ∧ assE x d = 10 := by
  unfold assD assE; rw [hl, if_pos h, if_pos h, if_neg (by rw [hp]; decide), if_neg (by rw [hp]; decide)]; exact ⟨rfl, rfl⟩
theorem ass_hit {x d : Dat} {k : Nat} {l : List Dat} (h : foundE x d = 0) (hl : foundL x d = l) (hp : pairsB l = true) (hk : k < l.length) (h1 : ∀ i (hi : i < l.length), i < k → x ≠ carD l[i]) (he : x = carD l[k]) : assD x d = l[k] ∧ assE x d = 0 := by
  have := key_hit hk h1 he
  unfold assD assE
  rw [hl, this, if_pos h, if_pos h, if_pos hp, if_pos hp, if_pos hk, if_pos hk, List.getD_eq_getElem?_getD, List.getElem?_eq_getElem hk]; exact ⟨rfl, rfl⟩
theorem ass_none {x d : Dat} {l : List Dat} (h : foundE x d = 0) (hl : foundL x d = l) (hp : pairsB l = true) (h1 : ∀ i (hi : i < l.length), x ≠ carD l[i]) : assD x d = zeroD ∧ assE x d = 7 := by
  have := key_none h1
  unfold assD assE
  rw [hl, this, if_pos h, if_pos h, if_pos hp, if_pos hp, if_neg (Nat.lt_irrefl _), if_neg (Nat.lt_irrefl _)]; exact ⟨rfl, rfl⟩
theorem pairs_k {l : List Dat} (h : pairsB l = true) {y : Dat} (hy : y ∈ l) : y.k = 8 := by have := List.all_eq_true.1 h y hy; simpa using this

set_option maxRecDepth 100000 in
set_option maxHeartbeats 16000000 in
theorem lassoc_any (x d : Dat) (vx vd : Value) (w : World) (P : Nat → Prop) (hP : ∀ b, P b → b < w.heap.size) (hX : RDP w P x vx) (hD : RDP w P d vd) (hT : Tabs w) :
    Calls Tryz.prog 7 #[vx, vd] w fun e w' => ∃ v', e = .returned (.tuple #[v', .int .i64 (assE x d)]) ∧ RDP w' (Out P w.heap.size w') (assD x d) v' ∧ Below w.heap.size w w' := by
  obtain ⟨lx, rfl, llx, lox⟩ := hX.agg
  obtain ⟨ld, rfl, lld, lod⟩ := hD.agg
  match lx, llx, lox, ld, lld, lod with
  | [x0, x1, x2, x3, x4, x5, x6, x7, x8, x9, x10], _, lox, [y0, y1, y2, y3, y4, y5, y6, y7, y8, y9, y10], _, lod =>
  have z1 : (w.alloc (.cells #[x0, x1, x2, x3, x4, x5, x6, x7, x8, x9, x10] 30)).heap.size = w.heap.size + 1 := by simp
  have z2 : ((w.alloc (.cells #[x0, x1, x2, x3, x4, x5, x6, x7, x8, x9, x10] 30)).alloc (.cells #[y0, y1, y2, y3, y4, y5, y6, y7, y8, y9, y10] 30)).heap.size = w.heap.size + 2 := by simp
  have SX := SB.new w [x0, x1, x2, x3, x4, x5, x6, x7, x8, x9, x10] 30
  have SD := SB.new (w.alloc (.cells #[x0, x1, x2, x3, x4, x5, x6, x7, x8, x9, x10] 30)) [y0, y1, y2, y3, y4, y5, y6, y7, y8, y9, y10] 30
  have S1 := SB.new ((w.alloc (.cells #[x0, x1, x2, x3, x4, x5, x6, x7, x8, x9, x10] 30)).alloc (.cells #[y0, y1, y2, y3, y4, y5, y6, y7, y8, y9, y10] 30)) [.int .i64 0, .int .i64 0, .bool false, .slice none 0 0, .slice none 0 0, .bool false, .slice none 0 0, .slice none 0 0, .string { data := #[] }, .slice none 0 0, .slice none 0 0] 30
  have B1 := bal w (.cells #[x0, x1, x2, x3, x4, x5, x6, x7, x8, x9, x10] 30)
  have B2 := bal (w.alloc (.cells #[x0, x1, x2, x3, x4, x5, x6, x7, x8, x9, x10] 30)) (.cells #[y0, y1, y2, y3, y4, y5, y6, y7, y8, y9, y10] 30)
  have B3 := bal ((w.alloc (.cells #[x0, x1, x2, x3, x4, x5, x6, x7, x8, x9, x10] 30)).alloc (.cells #[y0, y1, y2, y3, y4, y5, y6, y7, y8, y9, y10] 30)) (.cells #[.int .i64 0, .int .i64 0, .bool false, .slice none 0 0, .slice none 0 0, .bool false, .slice none 0 0, .slice none 0 0, .string { data := #[] }, .slice none 0 0, .slice none 0 0] 30)
  have BB := bt (bt B1 B2) B3
  have SX := (SX.nx B2).nx B3
  have SD := SD.nx B3
  rw [z1] at SD
  rw [z2] at S1
  clear B1 B2 B3 z1 z2
  have RX : RDP _ P x _ := hX.step (fun z hz => BB.block z (hP z hz)) (fun z hz => hz)
  have RD_ : RDP _ P d _ := hD.step (fun z hz => BB.block z (hP z hz)) (fun z hz => hz)
  obtain ⟨W0, hW0⟩ : ∃ W0, W0 = ((w.alloc (.cells #[x0, x1, x2, x3, x4, x5, x6, x7, x8, x9, x10] 30)).alloc (.cells #[y0, y1, y2, y3, y4, y5, y6, y7, y8, y9, y10] 30)).alloc (.cells #[.int .i64 0, .int .i64 0, .bool false, .slice none 0 0, .slice none 0 0, .bool false, .slice none 0 0, .slice none 0 0, .string { data := #[] }, .slice none 0 0, .slice none 0 0] 30) := ⟨_, rfl⟩
  have hN : w.heap.size + 3 ≤ W0.heap.size := by rw [hW0]; simp
  rw [← hW0] at SX SD S1 BB RX RD_
  
  go_enter Tryz.func7, Tryz.ntmps7
  go_upto_region 1 with fail
  rw [← hW0]
  clear hW0 hX hD
  generalize hn : w.heap.size = n at *
  have i0 := SD.cell 0; have i1 := SD.cell 1; have i2 := SD.cell 2; have i3 := SD.cell 3; have i4 := SD.cell 4; have i5 := SD.cell 5; have i6 := SD.cell 6; have i7 := SD.cell 7; have i8 := SD.cell 8; have i9 := SD.cell 9; have i10 := SD.cell 10
  have j0 := SX.cell 0; have j1 := SX.cell 1; have j2 := SX.cell 2; have j3 := SX.cell 3; have j4 := SX.cell 4; have j5 := SX.cell 5; have j6 := SX.cell 6; have j7 := SX.cell 7; have j8 := SX.cell 8; have j9 := SX.cell 9; have j10 := SX.cell 10
  have SK := SB.new W0 [x0, x1, x2, x3, x4, x5, x6, x7, x8, x9, x10] 30
  have Ba := bal W0 (.cells #[x0, x1, x2, x3, x4, x5, x6, x7, x8, x9, x10] 30)
  obtain ⟨W1, hW1⟩ : ∃ W1, W1 = W0.alloc (.cells #[x0, x1, x2, x3, x4, x5, x6, x7, x8, x9, x10] 30) := ⟨_, rfl⟩
  rw [← hW1] at SK Ba
  replace hW1 := Lib.hid hW1
  have SX := SX.nx Ba
  have SD := SD.nx Ba
  have S1 := S1.nx Ba
  have RX := RX.keeps hP (by omega) Ba
  have RD_ := RD_.keeps hP (by omega) Ba
  have BB := BB.trans (Ba.mono (by omega))
  have hN := Nat.le_trans hN Ba.size
  go_wp2_with fail
  rw [← hW1.out]
  clear hW1
  clear i0 i1 i2 i3 i4 i5 i6 i7 i8 i9 i10 j0 j1 j2 j3 j4 j5 j6 j7 j8 j9 j10
  refine (lread2_any x d _ W0.heap.size ⟨[x0, x1, x2, x3, x4, x5, x6, x7, x8, x9, x10], rfl, lox⟩ W1 P (fun z hz => by have := hP z hz; omega) RD_ RX (fun j u hj => (SK.1 j u hj).1) SK.2 (hT.go hn BB)).mono ?_
  rintro e w2 ⟨A, c, rfl, O2, B2⟩
  clear SK Ba
  clear SD RD_
  have hbase := hN
  have SX := SX.nx B2
  have S1 := S1.nx B2
  have RX := RX.keeps hP (by omega) B2
  have BB := BB.trans (B2.mono (by omega))
  have hN := Nat.le_trans hN B2.size
  have hlc := O2.len
  obtain ⟨g, hg1, hgs, hg, M0⟩ := O2.mut2 B2.size
  have hform := O2.form
  have hg1 : n + 3 ≤ g := by omega
  have hlen := foundL_len x d
  have hsn : ∀ y ∈ foundL x d, y.sound vU = true := fun y hy => found_item hy
  clear O2 B2 hbase
  rcases foundE_cases x d with he | he | ⟨he, hx, -, -⟩
  · have hta := ass_err (x := x) (d := d) (by rw [he]; decide)
    rw [he] at hta ⊢
    replace hta := Lib.hid hta
    generalize foundL x d = l at *
    go_upto_region 3 with fail
    go_wp2_with (refine wp_stD rfl rfl (.tmp 4) (.tmp 20) rfl (n + 2) rfl [.int .i64 0, .int .i64 0, .bool false, .slice none 0 0, .slice none 0 0, .bool false, .slice none 0 0, .slice none 0 0, .string { data := #[] }, .slice none 0 0, .slice none 0 0] rfl rfl _ S1 rfl (by simp [Value.oneCell']) ?_)
    have S2 := S1.cells [.int .i64 0, .int .i64 0, .bool false, .slice none 0 0, .slice none 0 0, .bool false, .slice none 0 0, .slice none 0 0, .string { data := #[] }, .slice none 0 0, .slice none 0 0] rfl
    have r0 := S2.cell 0; have r1 := S2.cell 1; have r2 := S2.cell 2; have r3 := S2.cell 3; have r4 := S2.cell 4; have r5 := S2.cell 5; have r6 := S2.cell 6; have r7 := S2.cell 7; have r8 := S2.cell 8; have r9 := S2.cell 9; have r10 := S2.cell 10
    refine bodyPost_ret (v := .tuple #[.agg #[.int .i64 0, .int .i64 0, .bool false, .slice none 0 0, .slice none 0 0, .bool false, .slice none 0 0, .slice none 0 0, .string { data := #[] }, .slice none 0 0, .slice none 0 0], .int .i64 2]) (by simp [results, r0, r1, r2, r3, r4, r5, r6, r7, r8, r9, r10, go_sem]) rfl ?_
    try rw [hn]
    rw [hta.out.1, hta.out.2]
    exact ⟨_, rfl, rd_zeroD _ _, below_cso BB (by omega) 0 [.int .i64 0, .int .i64 0, .bool false, .slice none 0 0, .slice none 0 0, .bool false, .slice none 0 0, .slice none 0 0, .string { data := #[] }, .slice none 0 0, .slice none 0 0]⟩
  · have hta := ass_err (x := x) (d := d) (by rw [he]; decide)
    rw [he] at hta ⊢
    replace hta := Lib.hid hta
    generalize foundL x d = l at *
    go_upto_region 3 with fail
    go_wp2_with (refine wp_stD rfl rfl (.tmp 4) (.tmp 20) rfl (n + 2) rfl [.int .i64 0, .int .i64 0, .bool false, .slice none 0 0, .slice none 0 0, .bool false, .slice none 0 0, .slice none 0 0, .string { data := #[] }, .slice none 0 0, .slice none 0 0] rfl rfl _ S1 rfl (by simp [Value.oneCell']) ?_)
    have S2 := S1.cells [.int .i64 0, .int .i64 0, .bool false, .slice none 0 0, .slice none 0 0, .bool false, .slice none 0 0, .slice none 0 0, .string { data := #[] }, .slice none 0 0, .slice none 0 0] rfl
    have r0 := S2.cell 0; have r1 := S2.cell 1; have r2 := S2.cell 2; have r3 := S2.cell 3; have r4 := S2.cell 4; have r5 := S2.cell 5; have r6 := S2.cell 6; have r7 := S2.cell 7; have r8 := S2.cell 8; have r9 := S2.cell 9; have r10 := S2.cell 10
    refine bodyPost_ret (v := .tuple #[.agg #[.int .i64 0, .int .i64 0, .bool false, .slice none 0 0, .slice none 0 0, .bool false, .slice none 0 0, .slice none 0 0, .string { data := #[] }, .slice none 0 0, .slice none 0 0], .int .i64 10]) (by simp [results, r0, r1, r2, r3, r4, r5, r6, r7, r8, r9, r10, go_sem]) rfl ?_
    try rw [hn]
    rw [hta.out.1, hta.out.2]
    exact ⟨_, rfl, rd_zeroD _ _, below_cso BB (by omega) 0 [.int .i64 0, .int .i64 0, .bool false, .slice none 0 0, .slice none 0 0, .bool false, .slice none 0 0, .slice none 0 0, .string { data := #[] }, .slice none 0 0, .slice none 0 0]⟩
  · rw [he]
    have gx := Dat.sound_good hx
    have htype := fun l (hl : foundL x d = l) hp => ass_type (x := x) (d := d) (l := l) he hl hp
    have hnone := fun l (hl : foundL x d = l) hp => ass_none (x := x) (d := d) (l := l) he hl hp
    have hhit := fun l (hl : foundL x d = l) hp k hk h1 h2 => ass_hit (x := x) (d := d) (l := l) (k := k) he hl hp hk h1 h2
    replace htype := htype _ rfl
    replace hnone := hnone _ rfl
    replace hhit := hhit _ rfl
    generalize foundL x d = l at *
    replace hnone := Lib.hid hnone
    replace hhit := Lib.hid hhit
    replace htype := Lib.hid htype
    clear he hx hform
    have L0 : RLs w2 (fun b => P b ∨ (b = g ∧ g < w2.heap.size)) A c l := M0.rls' hlc (by omega) (fun h => (hg h).1) (fun b hb => .inl hb) (fun h => .inr ⟨rfl, (hg h).2⟩)
    go_upto_region 4 with fail
    go_wp2_with fail
    refine (lpairs_any A c l w2 _ (fun b hb => hb.elim (fun hb => by have := hP b hb; omega) (fun hb => by omega)) L0).mono ?_
    rintro e w3 ⟨rfl, B3⟩
    clear L0
    have SX := SX.nx B3
    have S1 := S1.nx B3
    have RX := RX.keeps hP (by omega) B3
    have M0 := M0.keep (fun b hb => Nat.lt_of_lt_of_le (hP b hb) (by omega)) B3
    have BB := BB.trans (B3.mono (by omega))
    have hN := Nat.le_trans hN B3.size
    have hg : 0 < l.length → A = some (⟨g, 0, none⟩ : Addr) ∧ g < w3.heap.size := fun h => ⟨(hg h).1, Nat.lt_of_lt_of_le (hg h).2 B3.size⟩
    obtain ⟨z, hz⟩ : ∃ z, Hid (pairsB l = z) := ⟨_, Lib.hid rfl⟩
    rw [hz.out]
    cases z with
    | false =>
      have hta := htype.out hz.out
      replace hta := Lib.hid hta
      clear hnone hhit htype
      go_upto_region 5 with fail
      go_wp2_with (refine wp_stD rfl rfl (.tmp 4) (.tmp 26) rfl (n + 2) rfl [.int .i64 0, .int .i64 0, .bool false, .slice none 0 0, .slice none 0 0, .bool false, .slice none 0 0, .slice none 0 0, .string { data := #[] }, .slice none 0 0, .slice none 0 0] rfl rfl _ S1 rfl (by simp [Value.oneCell']) ?_)
      have S2 := S1.cells [.int .i64 0, .int .i64 0, .bool false, .slice none 0 0, .slice none 0 0, .bool false, .slice none 0 0, .slice none 0 0, .string { data := #[] }, .slice none 0 0, .slice none 0 0] rfl
      have r0 := S2.cell 0; have r1 := S2.cell 1; have r2 := S2.cell 2; have r3 := S2.cell 3; have r4 := S2.cell 4; have r5 := S2.cell 5; have r6 := S2.cell 6; have r7 := S2.cell 7; have r8 := S2.cell 8; have r9 := S2.cell 9; have r10 := S2.cell 10
      refine bodyPost_ret (v := .tuple #[.agg #[.int .i64 0, .int .i64 0, .bool false, .slice none 0 0, .slice none 0 0, .bool false, .slice none 0 0, .slice none 0 0, .string { data := #[] }, .slice none 0 0, .slice none 0 0], .int .i64 10]) (by simp [results, r0, r1, r2, r3, r4, r5, r6, r7, r8, r9, r10, go_sem]) rfl ?_
      try rw [hn]
      rw [hta.out.1, hta.out.2]
      exact ⟨_, rfl, rd_zeroD _ _, below_cso BB (by omega) 0 [.int .i64 0, .int .i64 0, .bool false, .slice none 0 0, .slice none 0 0, .bool false, .slice none 0 0, .slice none 0 0, .string { data := #[] }, .slice none 0 0, .slice none 0 0]⟩
    | true =>
      replace hnone := hnone.out hz.out
      replace hhit := hhit.out hz.out
      have h8 := fun y (hy : y ∈ l) => pairs_k hz.out hy
      replace hnone := Lib.hid hnone
      replace hhit := Lib.hid hhit
      clear htype B3
      go_upto_region 7 with fail
      go_loopg [29] l.length (fun gk s23 wx => ∃ k : Nat, s23 = .int .i64 (k : Int) ∧ k ≤ l.length ∧ k + gk = l.length ∧ SB wx n [x0, x1, x2, x3, x4, x5, x6, x7, x8, x9, x10] ∧ SB wx (n + 2) [.int .i64 0, .int .i64 0, .bool false, .slice none 0 0, .slice none 0 0, .bool false, .slice none 0 0, .slice none 0 0, .string { data := #[] }, .slice none 0 0, .slice none 0 0] ∧ RDP wx P x (.agg #[x0, x1, x2, x3, x4, x5, x6, x7, x8, x9, x10]) ∧ RowM wx P g 0 l ∧ Below n w wx ∧ n + 3 ≤ wx.heap.size ∧ (0 < l.length → A = some ⟨g, 0, none⟩ ∧ g < wx.heap.size) ∧ ∀ i (hi : i < l.length), i < k → x ≠ carD l[i])
      case atStart => exact ⟨0, rfl, Nat.zero_le _, by omega, SX, S1, RX, M0, BB, hN, hg, fun i _ h => by omega⟩
      case round =>
        clear M0 BB hg hN SX S1 RX
        obtain ⟨k, rfl, hkl, hgk, SX, S1, RX, M1, BB, hN, hg, hno⟩ := hrel
        replace hno := Lib.hid hno
        by_cases hk : k < l.length
        · obtain ⟨cs, hl, so, re⟩ := M1.at_ hk
          have hkz : (k : Int) < (l.length : Int) := by omega
          have gy := Dat.sound_good (hsn _ (List.getElem_mem hk))
          have sy := hsn _ (List.getElem_mem hk)
          obtain ⟨ya, yb, hy⟩ := good_pair gy (h8 _ (List.getElem_mem hk))
          rw [hy] at re sy
          have gya : ya.Good vU := (pair_good vU_nil).1 (hy ▸ gy) |>.1
          have hcar : carD l[k] = ya := by rw [hy]; rfl
          have hto : ∀ i (hi : i < l.length), i < k + 1 → x ≠ ya → x ≠ carD l[i] := fun i hi h hxy => by
            by_cases e : i = k
            · subst e; rw [hcar]; exact hxy
            · exact hno.out i hi (by omega)
          have hhk : x = ya → _ := fun e => hhit.out k hk hno.out (e.trans hcar.symm)
          rw [hy] at hhk
          obtain ⟨A1, c1, D1, d1, A2, c2, D2, d2, R, rc, b, off, lc, e, hPb, hlc2, cy, cyb, ly, lyb, oy, Ry, Ryb, ky, kyb⟩ := pairD_view re
          obtain rfl := congrArg Array.toList (Value.agg.inj e)
          replace hto := Lib.hid hto
          replace hhk := Lib.hid hhk
          replace sy := Lib.hid sy
          match cy, ly, oy with
          | [z0, z1, z2, z3, z4, z5, z6, z7, z8, z9, z10], _, oy =>
          clear hcar hy e gy
          have hbn := hP b hPb
          have hAg := (hg (by omega)).1
          have hgw := (hg (by omega)).2
          subst hAg
          have k0 : wr.cell? ⟨g, k * 11, none⟩ = some (.int .i64 8) := (by simpa using so.cell 0); have k1 : wr.cell? ⟨g, k * 11 + 1, none⟩ = some (.int .i64 0) := (by simpa using so.cell 1); have k2 : wr.cell? ⟨g, k * 11 + 2, none⟩ = some (.bool false) := (by simpa using so.cell 2); have k3 : wr.cell? ⟨g, k * 11 + 3, none⟩ = some (.slice A1 0 c1) := (by simpa using so.cell 3); have k4 : wr.cell? ⟨g, k * 11 + 4, none⟩ = some (.slice D1 0 d1) := (by simpa using so.cell 4); have k5 : wr.cell? ⟨g, k * 11 + 5, none⟩ = some (.bool false) := (by simpa using so.cell 5); have k6 : wr.cell? ⟨g, k * 11 + 6, none⟩ = some (.slice A2 0 c2) := (by simpa using so.cell 6); have k7 : wr.cell? ⟨g, k * 11 + 7, none⟩ = some (.slice D2 0 d2) := (by simpa using so.cell 7); have k8 : wr.cell? ⟨g, k * 11 + 8, none⟩ = some (.string ByteArray.empty) := (by simpa using so.cell 8); have k9 : wr.cell? ⟨g, k * 11 + 9, none⟩ = some (.slice R 0 rc) := (by simpa using so.cell 9); have k10 : wr.cell? ⟨g, k * 11 + 10, none⟩ = some (.slice (some ⟨b, off, none⟩) 2 lc) := (by simpa using so.cell 10)
          have Sg := SB.new wr [.int .i64 0, .int .i64 0, .bool false, .slice none 0 0, .slice none 0 0, .bool false, .slice none 0 0, .slice none 0 0, .string { data := #[] }, .slice none 0 0, .slice none 0 0] 30
          obtain ⟨w4, hw4⟩ : ∃ w4, w4 = (wr.alloc (.cells #[.int .i64 0, .int .i64 0, .bool false, .slice none 0 0, .slice none 0 0, .bool false, .slice none 0 0, .slice none 0 0, .string { data := #[] }, .slice none 0 0, .slice none 0 0] 30)).setCells wr.heap.size 0 [.int .i64 8, .int .i64 0, .bool false, .slice A1 0 c1, .slice D1 0 d1, .bool false, .slice A2 0 c2, .slice D2 0 d2, .string ByteArray.empty, .slice R 0 rc, .slice (some ⟨b, off, none⟩) 2 lc] := ⟨_, rfl⟩
          have Bw4 : Below wr.heap.size wr w4 := by rw [hw4]; exact below_cso (bal wr _) (Nat.le_refl _) 0 [.int .i64 8, .int .i64 0, .bool false, .slice A1 0 c1, .slice D1 0 d1, .bool false, .slice A2 0 c2, .slice D2 0 d2, .string ByteArray.empty, .slice R 0 rc, .slice (some ⟨b, off, none⟩) 2 lc]
          have S4 : SB w4 wr.heap.size [.int .i64 8, .int .i64 0, .bool false, .slice A1 0 c1, .slice D1 0 d1, .bool false, .slice A2 0 c2, .slice D2 0 d2, .string ByteArray.empty, .slice R 0 rc, .slice (some ⟨b, off, none⟩) 2 lc] := by rw [hw4]; exact Sg.cells [.int .i64 8, .int .i64 0, .bool false, .slice A1 0 c1, .slice D1 0 d1, .bool false, .slice A2 0 c2, .slice D2 0 d2, .string ByteArray.empty, .slice R 0 rc, .slice (some ⟨b, off, none⟩) 2 lc] rfl
          have hgwr : n + 3 ≤ wr.heap.size := hN
          replace hw4 := Lib.hid hw4
          go_upto_region 9 with (refine wp_stD rfl rfl (.tmp 9) (.tmp 32) rfl wr.heap.size rfl [.int .i64 8, .int .i64 0, .bool false, .slice A1 0 c1, .slice D1 0 d1, .bool false, .slice A2 0 c2, .slice D2 0 d2, .string ByteArray.empty, .slice R 0 rc, .slice (some ⟨b, off, none⟩) 2 lc] rfl rfl _ Sg rfl (by simp [Value.oneCell']) ?_; rw [← hw4.out]; clear hw4)
          clear Sg so
          clear k0 k1 k2 k3 k4 k5 k6 k7 k8 k9 k10
          have SX := SX.nx Bw4
          have S1 := S1.nx Bw4
          have RX := RX.keeps hP (by omega) Bw4
          have re := re.keeps hP (by omega) Bw4
          have Ry := Ry.keeps hP (by omega) Bw4
          have ky := range_nx ky Bw4 (by omega)
          have M1 := M1.keep (fun b hb => Nat.lt_of_lt_of_le (hP b hb) (by omega)) Bw4
          have BB := BB.trans (Bw4.mono (by omega))
          have hgw := Nat.lt_of_lt_of_le hgw Bw4.size
          have hN := Nat.le_trans hN Bw4.size
          have c10 : w4.cell? ⟨wr.heap.size, 10, none⟩ = some (.slice (some ⟨b, off, none⟩) 2 lc) := S4.cell 10
          have hgwr2 := S4.2
          have Dw := (Below.refl w4.heap.size w4).drew
          have SX := SX.nx Dw
          have S1 := S1.nx Dw
          have RX := RX.keeps hP (by omega) Dw
          have re := re.keeps hP (by omega) Dw
          have Ry := Ry.keeps hP (by omega) Dw
          have ky := range_nx ky Dw (by omega)
          have M1 := M1.keep (fun b hb => Nat.lt_of_lt_of_le (hP b hb) (by omega)) Dw
          have BB := BB.trans (Dw.mono (by omega))
          have hgw := Nat.lt_of_lt_of_le hgw Dw.size
          have S4 := S4.nx Dw
          have hgwr2 := Nat.lt_of_lt_of_le hgwr2 Dw.size
          have c10 := (Dw.cell (p := ⟨_, _, none⟩) (by show _ < _; omega)).trans c10
          have hN := Nat.le_trans hN Dw.size
          clear Dw
          refine AnyW.regionQ (fun _ => false) 7 (fun w' => w'.rangeAt n 0 [x0, x1, x2, x3, x4, x5, x6, x7, x8, x9, x10] ∧ w'.cell? ⟨wr.heap.size, 10, none⟩ = some (.slice (some ⟨b, off, none⟩) 2 lc) ∧ w'.rangeAt b off [z0, z1, z2, z3, z4, z5, z6, z7, z8, z9, z10]) rfl (by kernel_rfl) (by kernel_rfl) (by repeat (first | refine quiet_then ?_ | refine quiet_block ?_ | exact quiet_body)) ⟨(fun j u hj => by rw [Nat.zero_add]; exact (SX.1 j u hj).1), (c10), (ky)⟩ (fun Q' hQK hq hns hHeld => ?_)
          generalize w4.drew = w9 at *
          refine AnyW.next (i := 0) (v := .agg [x0, x1, x2, x3, x4, x5, x6, x7, x8, x9, x10].toArray) hq hns hHeld rfl rfl (by kernel_rfl) (yieldsIf_load_mid (by rfl) 30 (.tmp 2) rfl n 0 rfl [x0, x1, x2, x3, x4, x5, x6, x7, x8, x9, x10] _ (fun w' h => h.1) Tryz.underlying30 rfl (infoD.trans (by rfl))) ?_
          try simp only [List.setIfInBounds_toArray, List.set_cons_zero, List.set_cons_succ]
          refine AnyW.nextT (i := 1) (v := ?_) hq hns (.inr hHeld) rfl rfl (by kernel_rfl) (Or.inl ⟨by rfl, ?_⟩) ?_
          rotate_left
          · intro w' _; go_simp <;> with_reducible rfl
          try simp only [List.setIfInBounds_toArray, List.set_cons_zero, List.set_cons_succ]
          refine AnyW.next (i := 2) (v := ?_) hq hns hHeld rfl rfl (by kernel_rfl) (Or.inl ⟨by rfl, ?_⟩) ?_
          rotate_left
          · intro w' hSw
            have hc1 := hSw.2.1
            clear hSw
            go_simp <;> with_reducible rfl
          try simp only [List.setIfInBounds_toArray, List.set_cons_zero, List.set_cons_succ]
          refine AnyW.nextT (i := 3) (v := ?_) hq hns (.inr hHeld) rfl rfl (by kernel_rfl) (Or.inl ⟨by rfl, ?_⟩) ?_
          rotate_left
          · intro w' _; go_simp <;> with_reducible rfl
          try simp only [List.setIfInBounds_toArray, List.set_cons_zero, List.set_cons_succ]
          refine AnyW.next (i := 4) (v := .agg [z0, z1, z2, z3, z4, z5, z6, z7, z8, z9, z10].toArray) hq hns hHeld rfl rfl (by kernel_rfl) (yieldsIf_load_mid (by rfl) 30 (.tmp 36) rfl b off rfl [z0, z1, z2, z3, z4, z5, z6, z7, z8, z9, z10] _ (fun w' h => h.2.2) Tryz.underlying30 rfl (infoD.trans (by rfl))) ?_
          try simp only [List.setIfInBounds_toArray, List.set_cons_zero, List.set_cons_succ]
          refine AnyW.one 5 (by kernel_rfl) rfl (fun K' hK => ?_)
          go_simp
          refine (eord_any vU (RX.snd hP (by omega)) (Ry.snd hP (by omega)) gx gya).mono ?_
          rintro e w5 ⟨rfl, B5⟩
          go_wp2_with fail
          have SX := SX.nx B5
          have S1 := S1.nx B5
          have RX := RX.keeps hP (by omega) B5
          have re := re.keeps hP (by omega) B5
          have Ry := Ry.keeps hP (by omega) B5
          have ky := range_nx ky B5 (by omega)
          have M1 := M1.keep (fun b hb => Nat.lt_of_lt_of_le (hP b hb) (by omega)) B5
          have BB := BB.trans (B5.mono (by omega))
          have hgw := Nat.lt_of_lt_of_le hgw B5.size
          have S4 := S4.nx B5
          have hgwr2 := Nat.lt_of_lt_of_le hgwr2 B5.size
          have c10 := (B5.cell (p := ⟨_, _, none⟩) (by show _ < _; omega)).trans c10
          have hN := Nat.le_trans hN B5.size
          refine hK.out _ _ (.inr ⟨(fun j u hj => by rw [Nat.zero_add]; exact (SX.1 j u hj).1), (c10), (ky)⟩) (fun hG => ?_)
          have hHeld := hG.resolve_left (notGone.spec (by rfl))
          clear hK K' hG
          try simp only [List.setIfInBounds_toArray, List.set_cons_zero, List.set_cons_succ]
          by_cases hxy : x = ya
          · have ho : x.ord numQ ya = 0 := by rw [hxy]; exact ord_self numOrd ya gya
            have hta := hhk.out hxy
            replace hta := Lib.hid hta
            rw [ho]
            refine AnyW.nextT (i := 6) (v := ?_) hq hns (.inr hHeld) rfl rfl (by kernel_rfl) (Or.inl ⟨by rfl, ?_⟩) ?_
            rotate_left
            · intro w' _; go_simp <;> with_reducible rfl
            try simp only [List.setIfInBounds_toArray, List.set_cons_zero, List.set_cons_succ]
            refine AnyW.done (by kernel_rfl) (hQK.out _ _ ?_)
            clear hQK hq hns hHeld
            clear hxy ho gx gya Ry RX hto hhk hsn hnone hhit hno ky
            go_upto_region 10 with fail
            have i0 := S4.cell 0; have i1 := S4.cell 1; have i2 := S4.cell 2; have i3 := S4.cell 3; have i4 := S4.cell 4; have i5 := S4.cell 5; have i6 := S4.cell 6; have i7 := S4.cell 7; have i8 := S4.cell 8; have i9 := S4.cell 9; have i10 := S4.cell 10
            go_wp2_with fail
            refine (lfit_any (pairD ya yb) _ w5 P (fun z hz => by have := hP z hz; omega) re (hT.go hn BB)).mono ?_
            rintro e w6 ⟨vf, rfl, Rf, B6⟩
            rw [(fit_yes sy.out).1] at Rf
            have Rf := Rf.from_ (m := n + 3) hN
            clear i0 i1 i2 i3 i4 i5 i6 i7 i8 i9 i10
            have S1 := S1.nx B6
            have BB := BB.trans (B6.mono (by omega))
            have hN := Nat.le_trans hN B6.size
            rw [(fit_yes sy.out).2]
            obtain ⟨cs, rfl, cl, co⟩ := Rf.agg
            match cs, cl, co with
            | [q0, q1, q2, q3, q4, q5, q6, q7, q8, q9, q10], _, co =>
            go_wp2_with (refine wp_stD rfl rfl (.tmp 4) (.tmp 42) rfl (n + 2) rfl [q0, q1, q2, q3, q4, q5, q6, q7, q8, q9, q10] rfl rfl _ S1 rfl co ?_)
            have S2 := S1.cells [q0, q1, q2, q3, q4, q5, q6, q7, q8, q9, q10] rfl
            have r0 := S2.cell 0; have r1 := S2.cell 1; have r2 := S2.cell 2; have r3 := S2.cell 3; have r4 := S2.cell 4; have r5 := S2.cell 5; have r6 := S2.cell 6; have r7 := S2.cell 7; have r8 := S2.cell 8; have r9 := S2.cell 9; have r10 := S2.cell 10
            refine bodyPost_ret (v := .tuple #[.agg #[q0, q1, q2, q3, q4, q5, q6, q7, q8, q9, q10], .int .i64 0]) (by simp [results, r0, r1, r2, r3, r4, r5, r6, r7, r8, r9, r10, go_sem]) rfl ?_
            try rw [hn]
            rw [hta.out.1, hta.out.2]
            exact ⟨_, rfl, (Rf.scO hP (by omega) (g := n + 2) (by omega) (by omega) 0 [q0, q1, q2, q3, q4, q5, q6, q7, q8, q9, q10]).from_ (by omega), below_cso BB (by omega) 0 [q0, q1, q2, q3, q4, q5, q6, q7, q8, q9, q10]⟩
          · have ho : ¬ x.ord numQ ya = 0 := fun h => hxy (ord_same numOrd x ya gx gya h)
            have hob : (x.ord numQ ya == 0) = false := by simpa using ho
            generalize x.ord numQ ya = oo at *
            refine AnyW.nextT (i := 6) (v := ?_) hq hns (.inr hHeld) rfl rfl (by kernel_rfl) (Or.inl ⟨by rfl, ?_⟩) ?_
            rotate_left
            · intro w' _; go_simp <;> with_reducible rfl
            try simp only [List.setIfInBounds_toArray, List.set_cons_zero, List.set_cons_succ]
            refine AnyW.done (by kernel_rfl) (hQK.out _ _ ?_)
            clear hQK hq hns hHeld
            go_upto_region 11 with fail
            go_wp2_with fail
            go_roundg (l.length - (k + 1))
            case measure => omega
            case rel => exact ⟨k + 1, by simp, by omega, by omega, SX, S1, RX, M1, BB, hN, fun _ => ⟨by trivial, hgw⟩, fun i hi h => hto.out i hi h hxy⟩
        · have hkz : ¬ (k : Int) < (l.length : Int) := by omega
          have hta := hnone.out (fun i hi => hno.out i hi (by omega))
          replace hta := Lib.hid hta
          clear hsn hnone hhit hno
          go_wp2_with (refine wp_stD rfl rfl (.tmp 4) (.tmp 45) rfl (n + 2) rfl [.int .i64 0, .int .i64 0, .bool false, .slice none 0 0, .slice none 0 0, .bool false, .slice none 0 0, .slice none 0 0, .string { data := #[] }, .slice none 0 0, .slice none 0 0] rfl rfl _ S1 rfl (by simp [Value.oneCell']) ?_)
          have S2 := S1.cells [.int .i64 0, .int .i64 0, .bool false, .slice none 0 0, .slice none 0 0, .bool false, .slice none 0 0, .slice none 0 0, .string { data := #[] }, .slice none 0 0, .slice none 0 0] rfl
          have r0 := S2.cell 0; have r1 := S2.cell 1; have r2 := S2.cell 2; have r3 := S2.cell 3; have r4 := S2.cell 4; have r5 := S2.cell 5; have r6 := S2.cell 6; have r7 := S2.cell 7; have r8 := S2.cell 8; have r9 := S2.cell 9; have r10 := S2.cell 10
          refine bodyPost_ret (v := .tuple #[.agg #[.int .i64 0, .int .i64 0, .bool false, .slice none 0 0, .slice none 0 0, .bool false, .slice none 0 0, .slice none 0 0, .string { data := #[] }, .slice none 0 0, .slice none 0 0], .int .i64 7]) (by simp [results, r0, r1, r2, r3, r4, r5, r6, r7, r8, r9, r10, go_sem]) rfl ?_
          try rw [hn]
          rw [hta.out.1, hta.out.2]
          exact ⟨_, rfl, rd_zeroD _ _, below_cso BB (by omega) 0 [.int .i64 0, .int .i64 0, .bool false, .slice none 0 0, .slice none 0 0, .bool false, .slice none 0 0, .slice none 0 0, .string { data := #[] }, .slice none 0 0, .slice none 0 0]⟩

set_option maxRecDepth 100000 in
set_option maxHeartbeats 16000000 in
theorem rassoc_any (x d : Dat) (vx vd : Value) (w : World) (P : Nat → Prop) (hP : ∀ b, P b → b < w.heap.size) (hX : RDP w P x vx) (hD : RDP w P d vd) :
    Calls Tryz.prog 8 #[vx, vd] w fun e w' => ∃ v', e = .returned (.tuple #[v', .int .i64 (assE x d)]) ∧ RDP w' (Out P w.heap.size w') (assD x d) v' ∧ Below w.heap.size w w' := by
  obtain ⟨lx, rfl, llx, lox⟩ := hX.agg
  obtain ⟨ld, rfl, lld, lod⟩ := hD.agg
  match lx, llx, lox, ld, lld, lod with
  | [x0, x1, x2, x3, x4, x5, x6, x7, x8, x9, x10], _, lox, [y0, y1, y2, y3, y4, y5, y6, y7, y8, y9, y10], _, lod =>
  have z1 : (w.alloc (.cells #[x0, x1, x2, x3, x4, x5, x6, x7, x8, x9, x10] 30)).heap.size = w.heap.size + 1 := by simp
  have z2 : ((w.alloc (.cells #[x0, x1, x2, x3, x4, x5, x6, x7, x8, x9, x10] 30)).alloc (.cells #[y0, y1, y2, y3, y4, y5, y6, y7, y8, y9, y10] 30)).heap.size = w.heap.size + 2 := by simp
  have SX := SB.new w [x0, x1, x2, x3, x4, x5, x6, x7, x8, x9, x10] 30
  have SD := SB.new (w.alloc (.cells #[x0, x1, x2, x3, x4, x5, x6, x7, x8, x9, x10] 30)) [y0, y1, y2, y3, y4, y5, y6, y7, y8, y9, y10] 30
  have S1 := SB.new ((w.alloc (.cells #[x0, x1, x2, x3, x4, x5, x6, x7, x8, x9, x10] 30)).alloc (.cells #[y0, y1, y2, y3, y4, y5, y6, y7, y8, y9, y10] 30)) [.int .i64 0, .int .i64 0, .bool false, .slice none 0 0, .slice none 0 0, .bool false, .slice none 0 0, .slice none 0 0, .string { data := #[] }, .slice none 0 0, .slice none 0 0] 30
  have B1 := bal w (.cells #[x0, x1, x2, x3, x4, x5, x6, x7, x8, x9, x10] 30)
  have B2 := bal (w.alloc (.cells #[x0, x1, x2, x3, x4, x5, x6, x7, x8, x9, x10] 30)) (.cells #[y0, y1, y2, y3, y4, y5, y6, y7, y8, y9, y10] 30)
  have B3 := bal ((w.alloc (.cells #[x0, x1, x2, x3, x4, x5, x6, x7, x8, x9, x10] 30)).alloc (.cells #[y0, y1, y2, y3, y4, y5, y6, y7, y8, y9, y10] 30)) (.cells #[.int .i64 0, .int .i64 0, .bool false, .slice none 0 0, .slice none 0 0, .bool false, .slice none 0 0, .slice none 0 0, .string { data := #[] }, .slice none 0 0, .slice none 0 0] 30)
  have BB := bt (bt B1 B2) B3
  have SX := (SX.nx B2).nx B3
  have SD := SD.nx B3
  rw [z1] at SD
  rw [z2] at S1
  clear B1 B2 B3 z1 z2
  have RX : RDP _ P x _ := hX.step (fun z hz => BB.block z (hP z hz)) (fun z hz => hz)
  have RD_ : RDP _ P d _ := hD.step (fun z hz => BB.block z (hP z hz)) (fun z hz => hz)
  obtain ⟨W0, hW0⟩ : ∃ W0, W0 = ((w.alloc (.cells #[x0, x1, x2, x3, x4, x5, x6, x7, x8, x9, x10] 30)).alloc (.cells #[y0, y1, y2, y3, y4, y5, y6, y7, y8, y9, y10] 30)).alloc (.cells #[.int .i64 0, .int .i64 0, .bool false, .slice none 0 0, .slice none 0 0, .bool false, .slice none 0 0, .slice none 0 0, .string { data := #[] }, .slice none 0 0, .slice none 0 0] 30) := ⟨_, rfl⟩
  have hN : w.heap.size + 3 ≤ W0.heap.size := by rw [hW0]; simp
  rw [← hW0] at SX SD S1 BB RX RD_
  
  go_enter Tryz.func8, Tryz.ntmps8
  go_upto_region 1 with fail
  rw [← hW0]
  clear hW0 hX hD
  generalize hn : w.heap.size = n at *
  have i0 := SD.cell 0; have i1 := SD.cell 1; have i2 := SD.cell 2; have i3 := SD.cell 3; have i4 := SD.cell 4; have i5 := SD.cell 5; have i6 := SD.cell 6; have i7 := SD.cell 7; have i8 := SD.cell 8; have i9 := SD.cell 9; have i10 := SD.cell 10
  have j0 := SX.cell 0; have j1 := SX.cell 1; have j2 := SX.cell 2; have j3 := SX.cell 3; have j4 := SX.cell 4; have j5 := SX.cell 5; have j6 := SX.cell 6; have j7 := SX.cell 7; have j8 := SX.cell 8; have j9 := SX.cell 9; have j10 := SX.cell 10
  go_wp2_with fail
  refine (rboth_any x d _ _ W0 P (fun z hz => by have := hP z hz; omega) RX RD_).mono ?_
  rintro e w2 ⟨A, c, rfl, O2, B2⟩
  clear i0 i1 i2 i3 i4 i5 i6 i7 i8 i9 i10 j0 j1 j2 j3 j4 j5 j6 j7 j8 j9 j10
  clear SD RD_
  have hbase := hN
  have SX := SX.nx B2
  have S1 := S1.nx B2
  have RX := RX.keeps hP (by omega) B2
  have BB := BB.trans (B2.mono (by omega))
  have hN := Nat.le_trans hN B2.size
  have hlc := O2.len
  obtain ⟨g, hg1, hgs, hg, M0⟩ := O2.mut2 B2.size
  have hform := O2.form
  have hg1 : n + 3 ≤ g := by omega
  have hlen := foundL_len x d
  have hsn : ∀ y ∈ foundL x d, y.sound vU = true := fun y hy => found_item hy
  clear O2 B2 hbase
  rcases foundE_cases x d with he | he | ⟨he, hx, -, -⟩
  · have hta := ass_err (x := x) (d := d) (by rw [he]; decide)
    rw [he] at hta ⊢
    replace hta := Lib.hid hta
    generalize foundL x d = l at *
    go_wp2_with (refine wp_stD rfl rfl (.tmp 4) (.tmp 17) rfl (n + 2) rfl [.int .i64 0, .int .i64 0, .bool false, .slice none 0 0, .slice none 0 0, .bool false, .slice none 0 0, .slice none 0 0, .string { data := #[] }, .slice none 0 0, .slice none 0 0] rfl rfl _ S1 rfl (by simp [Value.oneCell']) ?_)
    have S2 := S1.cells [.int .i64 0, .int .i64 0, .bool false, .slice none 0 0, .slice none 0 0, .bool false, .slice none 0 0, .slice none 0 0, .string { data := #[] }, .slice none 0 0, .slice none 0 0] rfl
    have r0 := S2.cell 0; have r1 := S2.cell 1; have r2 := S2.cell 2; have r3 := S2.cell 3; have r4 := S2.cell 4; have r5 := S2.cell 5; have r6 := S2.cell 6; have r7 := S2.cell 7; have r8 := S2.cell 8; have r9 := S2.cell 9; have r10 := S2.cell 10
    refine bodyPost_ret (v := .tuple #[.agg #[.int .i64 0, .int .i64 0, .bool false, .slice none 0 0, .slice none 0 0, .bool false, .slice none 0 0, .slice none 0 0, .string { data := #[] }, .slice none 0 0, .slice none 0 0], .int .i64 2]) (by simp [results, r0, r1, r2, r3, r4, r5, r6, r7, r8, r9, r10, go_sem]) rfl ?_
    try rw [hn]
    rw [hta.out.1, hta.out.2]
    exact ⟨_, rfl, rd_zeroD _ _, below_cso BB (by omega) 0 [.int .i64 0, .int .i64 0, .bool false, .slice none 0 0, .slice none 0 0, .bool false, .slice none 0 0, .slice none 0 0, .string { data := #[] }, .slice none 0 0, .slice none 0 0]⟩
  · have hta := ass_err (x := x) (d := d) (by rw [he]; decide)
    rw [he] at hta ⊢
    replace hta := Lib.hid hta
    generalize foundL x d = l at *
    go_wp2_with (refine wp_stD rfl rfl (.tmp 4) (.tmp 17) rfl (n + 2) rfl [.int .i64 0, .int .i64 0, .bool false, .slice none 0 0, .slice none 0 0, .bool false, .slice none 0 0, .slice none 0 0, .string { data := #[] }, .slice none 0 0, .slice none 0 0] rfl rfl _ S1 rfl (by simp [Value.oneCell']) ?_)
    have S2 := S1.cells [.int .i64 0, .int .i64 0, .bool false, .slice none 0 0, .slice none 0 0, .bool false, .slice none 0 0, .slice none 0 0, .string { data := #[] }, .slice none 0 0, .slice none 0 0] rfl
    have r0 := S2.cell 0; have r1 := S2.cell 1; have r2 := S2.cell 2; have r3 := S2.cell 3; have r4 := S2.cell 4; have r5 := S2.cell 5; have r6 := S2.cell 6; have r7 := S2.cell 7; have r8 := S2.cell 8; have r9 := S2.cell 9; have r10 := S2.cell 10
    refine bodyPost_ret (v := .tuple #[.agg #[.int .i64 0, .int .i64 0, .bool false, .slice none 0 0, .slice none 0 0, .bool false, .slice none 0 0, .slice none 0 0, .string { data := #[] }, .slice none 0 0, .slice none 0 0], .int .i64 10]) (by simp [results, r0, r1, r2, r3, r4, r5, r6, r7, r8, r9, r10, go_sem]) rfl ?_
    try rw [hn]
    rw [hta.out.1, hta.out.2]
    exact ⟨_, rfl, rd_zeroD _ _, below_cso BB (by omega) 0 [.int .i64 0, .int .i64 0, .bool false, .slice none 0 0, .slice none 0 0, .bool false, .slice none 0 0, .slice none 0 0, .string { data := #[] }, .slice none 0 0, .slice none 0 0]⟩
  · rw [he]
    have gx := Dat.sound_good hx
    have htype := fun l (hl : foundL x d = l) hp => ass_type (x := x) (d := d) (l := l) he hl hp
    have hnone := fun l (hl : foundL x d = l) hp => ass_none (x := x) (d := d) (l := l) he hl hp
    have hhit := fun l (hl : foundL x d = l) hp k hk h1 h2 => ass_hit (x := x) (d := d) (l := l) (k := k) he hl hp hk h1 h2
    replace htype := htype _ rfl
    replace hnone := hnone _ rfl
    replace hhit := hhit _ rfl
    generalize foundL x d = l at *
    replace hnone := Lib.hid hnone
    replace hhit := Lib.hid hhit
    replace htype := Lib.hid htype
    clear he hx hform
    have L0 : RLs w2 (fun b => P b ∨ (b = g ∧ g < w2.heap.size)) A c l := M0.rls' hlc (by omega) (fun h => (hg h).1) (fun b hb => .inl hb) (fun h => .inr ⟨rfl, (hg h).2⟩)
    go_upto_region 4 with fail
    go_wp2_with fail
    refine (rpairs_any A c l w2 _ L0).mono ?_
    rintro e w3 ⟨rfl, B3⟩
    clear L0
    have SX := SX.nx B3
    have S1 := S1.nx B3
    have RX := RX.keeps hP (by omega) B3
    have M0 := M0.keep (fun b hb => Nat.lt_of_lt_of_le (hP b hb) (by omega)) B3
    have BB := BB.trans (B3.mono (by omega))
    have hN := Nat.le_trans hN B3.size
    have hg : 0 < l.length → A = some (⟨g, 0, none⟩ : Addr) ∧ g < w3.heap.size := fun h => ⟨(hg h).1, Nat.lt_of_lt_of_le (hg h).2 B3.size⟩
    obtain ⟨z, hz⟩ : ∃ z, Hid (pairsB l = z) := ⟨_, Lib.hid rfl⟩
    rw [hz.out]
    cases z with
    | false =>
      have hta := htype.out hz.out
      replace hta := Lib.hid hta
      clear hnone hhit htype
      go_upto_region 5 with fail
      go_wp2_with (refine wp_stD rfl rfl (.tmp 4) (.tmp 22) rfl (n + 2) rfl [.int .i64 0, .int .i64 0, .bool false, .slice none 0 0, .slice none 0 0, .bool false, .slice none 0 0, .slice none 0 0, .string { data := #[] }, .slice none 0 0, .slice none 0 0] rfl rfl _ S1 rfl (by simp [Value.oneCell']) ?_)
      have S2 := S1.cells [.int .i64 0, .int .i64 0, .bool false, .slice none 0 0, .slice none 0 0, .bool false, .slice none 0 0, .slice none 0 0, .string { data := #[] }, .slice none 0 0, .slice none 0 0] rfl
      have r0 := S2.cell 0; have r1 := S2.cell 1; have r2 := S2.cell 2; have r3 := S2.cell 3; have r4 := S2.cell 4; have r5 := S2.cell 5; have r6 := S2.cell 6; have r7 := S2.cell 7; have r8 := S2.cell 8; have r9 := S2.cell 9; have r10 := S2.cell 10
      refine bodyPost_ret (v := .tuple #[.agg #[.int .i64 0, .int .i64 0, .bool false, .slice none 0 0, .slice none 0 0, .bool false, .slice none 0 0, .slice none 0 0, .string { data := #[] }, .slice none 0 0, .slice none 0 0], .int .i64 10]) (by simp [results, r0, r1, r2, r3, r4, r5, r6, r7, r8, r9, r10, go_sem]) rfl ?_
      try rw [hn]
      rw [hta.out.1, hta.out.2]
      exact ⟨_, rfl, rd_zeroD _ _, below_cso BB (by omega) 0 [.int .i64 0, .int .i64 0, .bool false, .slice none 0 0, .slice none 0 0, .bool false, .slice none 0 0, .slice none 0 0, .string { data := #[] }, .slice none 0 0, .slice none 0 0]⟩
    | true =>
      replace hnone := hnone.out hz.out
      replace hhit := hhit.out hz.out
      have h8 := fun y (hy : y ∈ l) => pairs_k hz.out hy
      replace hnone := Lib.hid hnone
      replace hhit := Lib.hid hhit
      clear htype B3
      go_upto_region 7 with fail
      go_loopg [8] l.length (fun gk s23 wx => ∃ k : Nat, s23 = .int .i64 (k : Int) ∧ k ≤ l.length ∧ k + gk = l.length ∧ SB wx n [x0, x1, x2, x3, x4, x5, x6, x7, x8, x9, x10] ∧ SB wx (n + 2) [.int .i64 0, .int .i64 0, .bool false, .slice none 0 0, .slice none 0 0, .bool false, .slice none 0 0, .slice none 0 0, .string { data := #[] }, .slice none 0 0, .slice none 0 0] ∧ RDP wx P x (.agg #[x0, x1, x2, x3, x4, x5, x6, x7, x8, x9, x10]) ∧ RowM wx P g 0 l ∧ Below n w wx ∧ n + 3 ≤ wx.heap.size ∧ (0 < l.length → A = some ⟨g, 0, none⟩ ∧ g < wx.heap.size) ∧ ∀ i (hi : i < l.length), i < k → x ≠ carD l[i])
      case atStart => exact ⟨0, rfl, Nat.zero_le _, by omega, SX, S1, RX, M0, BB, hN, hg, fun i _ h => by omega⟩
      case round =>
        clear M0 BB hg hN SX S1 RX
        obtain ⟨k, rfl, hkl, hgk, SX, S1, RX, M1, BB, hN, hg, hno⟩ := hrel
        replace hno := Lib.hid hno
        by_cases hk : k < l.length
        · obtain ⟨cs, hl, so, re⟩ := M1.at_ hk
          have hkz : (k : Int) < (l.length : Int) := by omega
          have gy := Dat.sound_good (hsn _ (List.getElem_mem hk))
          have sy := hsn _ (List.getElem_mem hk)
          obtain ⟨ya, yb, hy⟩ := good_pair gy (h8 _ (List.getElem_mem hk))
          rw [hy] at re sy
          have gya : ya.Good vU := (pair_good vU_nil).1 (hy ▸ gy) |>.1
          have hcar : carD l[k] = ya := by rw [hy]; rfl
          have hto : ∀ i (hi : i < l.length), i < k + 1 → x ≠ ya → x ≠ carD l[i] := fun i hi h hxy => by
            by_cases e : i = k
            · subst e; rw [hcar]; exact hxy
            · exact hno.out i hi (by omega)
          have hhk : x = ya → _ := fun e => hhit.out k hk hno.out (e.trans hcar.symm)
          rw [hy] at hhk
          obtain ⟨A1, c1, D1, d1, A2, c2, D2, d2, R, rc, b, off, lc, e, hPb, hlc2, cy, cyb, ly, lyb, oy, Ry, Ryb, ky, kyb⟩ := pairD_view re
          obtain rfl := congrArg Array.toList (Value.agg.inj e)
          replace hto := Lib.hid hto
          replace hhk := Lib.hid hhk
          replace sy := Lib.hid sy
          match cy, ly, oy with
          | [z0, z1, z2, z3, z4, z5, z6, z7, z8, z9, z10], _, oy =>
          clear hcar hy e gy
          have hbn := hP b hPb
          have hAg := (hg (by omega)).1
          have hgw := (hg (by omega)).2
          subst hAg
          have rz : wr.rangeAt g (k * 11) [.int .i64 8, .int .i64 0, .bool false, .slice A1 0 c1, .slice D1 0 d1, .bool false, .slice A2 0 c2, .slice D2 0 d2, .string ByteArray.empty, .slice R 0 rc, .slice (some ⟨b, off, none⟩) 2 lc] := by have := so.range; rwa [Nat.zero_add] at this
          have c10 : wr.cell? ⟨g, k * 11 + 10, none⟩ = some (.slice (some ⟨b, off, none⟩) 2 lc) := rz 10 _ rfl
          clear so
          go_upto_region 9 with fail
          have Dw := (Below.refl wr.heap.size wr).drew
          have SX := SX.nx Dw
          have S1 := S1.nx Dw
          have RX := RX.keeps hP (by omega) Dw
          have re := re.keeps hP (by omega) Dw
          have Ry := Ry.keeps hP (by omega) Dw
          have ky := range_nx ky Dw (by omega)
          have M1 := M1.keep (fun b hb => Nat.lt_of_lt_of_le (hP b hb) (by omega)) Dw
          have BB := BB.trans (Dw.mono (by omega))
          have hgw := Nat.lt_of_lt_of_le hgw Dw.size
          have c10 := (Dw.cell (p := ⟨_, _, none⟩) (by show _ < _; omega)).trans c10
          have rz := range_nx rz Dw (by omega)
          have hN := Nat.le_trans hN Dw.size
          clear Dw
          refine AnyW.regionQ (fun _ => false) 9 (fun w' => w'.rangeAt n 0 [x0, x1, x2, x3, x4, x5, x6, x7, x8, x9, x10] ∧ w'.cell? ⟨g, k * 11 + 10, none⟩ = some (.slice (some ⟨b, off, none⟩) 2 lc) ∧ w'.rangeAt b off [z0, z1, z2, z3, z4, z5, z6, z7, z8, z9, z10]) rfl (by kernel_rfl) (by kernel_rfl) (by repeat (first | refine quiet_then ?_ | refine quiet_block ?_ | exact quiet_body)) ⟨(fun j u hj => by rw [Nat.zero_add]; exact (SX.1 j u hj).1), (c10), (ky)⟩ (fun Q' hQK hq hns hHeld => ?_)
          generalize wr.drew = w9 at *
          refine AnyW.next (i := 0) (v := .agg [x0, x1, x2, x3, x4, x5, x6, x7, x8, x9, x10].toArray) hq hns hHeld rfl rfl (by kernel_rfl) (yieldsIf_load_mid (by rfl) 30 (.tmp 2) rfl n 0 rfl [x0, x1, x2, x3, x4, x5, x6, x7, x8, x9, x10] _ (fun w' h => h.1) Tryz.underlying30 rfl (infoD.trans (by rfl))) ?_
          try simp only [List.setIfInBounds_toArray, List.set_cons_zero, List.set_cons_succ]
          refine AnyW.nextT (i := 1) (v := ?_) hq hns (.inr hHeld) rfl rfl (by kernel_rfl) (Or.inl ⟨by rfl, ?_⟩) ?_
          rotate_left
          · intro w' _; go_simp <;> with_reducible rfl
          try simp only [List.setIfInBounds_toArray, List.set_cons_zero, List.set_cons_succ]
          refine AnyW.nextT (i := 2) (v := ?_) hq hns (.inr hHeld) rfl rfl (by kernel_rfl) (Or.inl ⟨by rfl, ?_⟩) ?_
          rotate_left
          · intro w' _; go_simp <;> with_reducible rfl
          try simp only [List.setIfInBounds_toArray, List.set_cons_zero, List.set_cons_succ]
          refine AnyW.nextT (i := 3) (v := ?_) hq hns (.inr hHeld) rfl rfl (by kernel_rfl) (Or.inl ⟨by rfl, ?_⟩) ?_
          rotate_left
          · intro w' _; go_simp <;> with_reducible rfl
          try simp only [List.setIfInBounds_toArray, List.set_cons_zero, List.set_cons_succ]
          refine AnyW.nextT (i := 4) (v := ?_) hq hns (.inr hHeld) rfl rfl (by kernel_rfl) (Or.inl ⟨by rfl, ?_⟩) ?_
          rotate_left
          · intro w' _; go_simp <;> with_reducible rfl
          try simp only [List.setIfInBounds_toArray, List.set_cons_zero, List.set_cons_succ]
          refine AnyW.next (i := 5) (v := ?_) hq hns hHeld rfl rfl (by kernel_rfl) (Or.inl ⟨by rfl, ?_⟩) ?_
          rotate_left
          · intro w' hSw
            have hc1 := hSw.2.1
            clear hSw
            go_simp <;> with_reducible rfl
          try simp only [List.setIfInBounds_toArray, List.set_cons_zero, List.set_cons_succ]
          refine AnyW.nextT (i := 6) (v := ?_) hq hns (.inr hHeld) rfl rfl (by kernel_rfl) (Or.inl ⟨by rfl, ?_⟩) ?_
          rotate_left
          · intro w' _; go_simp <;> with_reducible rfl
          try simp only [List.setIfInBounds_toArray, List.set_cons_zero, List.set_cons_succ]
          refine AnyW.next (i := 7) (v := .agg [z0, z1, z2, z3, z4, z5, z6, z7, z8, z9, z10].toArray) hq hns hHeld rfl rfl (by kernel_rfl) (yieldsIf_load_mid (by rfl) 30 (.tmp 35) rfl b off rfl [z0, z1, z2, z3, z4, z5, z6, z7, z8, z9, z10] _ (fun w' h => h.2.2) Tryz.underlying30 rfl (infoD.trans (by rfl))) ?_
          try simp only [List.setIfInBounds_toArray, List.set_cons_zero, List.set_cons_succ]
          refine AnyW.one 8 (by kernel_rfl) rfl (fun K' hK => ?_)
          go_simp
          refine (rsame_go _ x ya (Nat.le_refl _) _ _ w9 (RX.snd hP (by omega)) (Ry.snd hP (by omega))).mono ?_
          rintro e w5 ⟨rfl, B5⟩
          go_wp2_with fail
          have SX := SX.nx B5
          have S1 := S1.nx B5
          have RX := RX.keeps hP (by omega) B5
          have re := re.keeps hP (by omega) B5
          have Ry := Ry.keeps hP (by omega) B5
          have ky := range_nx ky B5 (by omega)
          have M1 := M1.keep (fun b hb => Nat.lt_of_lt_of_le (hP b hb) (by omega)) B5
          have BB := BB.trans (B5.mono (by omega))
          have hgw := Nat.lt_of_lt_of_le hgw B5.size
          have c10 := (B5.cell (p := ⟨_, _, none⟩) (by show _ < _; omega)).trans c10
          have rz := range_nx rz B5 (by omega)
          have hN := Nat.le_trans hN B5.size
          refine hK.out _ _ (.inr ⟨(fun j u hj => by rw [Nat.zero_add]; exact (SX.1 j u hj).1), (c10), (ky)⟩) (fun hG => ?_)
          have hHeld := hG.resolve_left (notGone.spec (by rfl))
          clear hK K' hG
          try simp only [List.setIfInBounds_toArray, List.set_cons_zero, List.set_cons_succ]
          refine AnyW.done (by kernel_rfl) (hQK.out _ _ ?_)
          clear hQK hq hns hHeld
          by_cases hxy : x = ya
          · have ho : sameD x ya = true := same_yes hxy
            have hta := hhk.out hxy
            replace hta := Lib.hid hta
            rw [ho]
            clear hxy ho gx gya Ry RX hto hhk hsn hnone hhit hno ky c10
            have k0 := rz 0 _ rfl; have k1 := rz 1 _ rfl; have k2 := rz 2 _ rfl; have k3 := rz 3 _ rfl; have k4 := rz 4 _ rfl; have k5 := rz 5 _ rfl; have k6 := rz 6 _ rfl; have k7 := rz 7 _ rfl; have k8 := rz 8 _ rfl; have k9 := rz 9 _ rfl; have k10 := rz 10 _ rfl
            simp only [Nat.add_zero] at k0
            go_upto_region 10 with fail
            go_wp2_with (refine wp_stD rfl rfl (.tmp 4) (.tmp 41) rfl (n + 2) rfl [.int .i64 8, .int .i64 0, .bool false, .slice A1 0 c1, .slice D1 0 d1, .bool false, .slice A2 0 c2, .slice D2 0 d2, .string ByteArray.empty, .slice R 0 rc, .slice (some ⟨b, off, none⟩) 2 lc] rfl rfl _ S1 rfl (by simp [Value.oneCell']) ?_)
            have S2 := S1.cells [.int .i64 8, .int .i64 0, .bool false, .slice A1 0 c1, .slice D1 0 d1, .bool false, .slice A2 0 c2, .slice D2 0 d2, .string ByteArray.empty, .slice R 0 rc, .slice (some ⟨b, off, none⟩) 2 lc] rfl
            clear k0 k1 k2 k3 k4 k5 k6 k7 k8 k9 k10
            have r0 := S2.cell 0; have r1 := S2.cell 1; have r2 := S2.cell 2; have r3 := S2.cell 3; have r4 := S2.cell 4; have r5 := S2.cell 5; have r6 := S2.cell 6; have r7 := S2.cell 7; have r8 := S2.cell 8; have r9 := S2.cell 9; have r10 := S2.cell 10
            refine bodyPost_ret (v := .tuple #[.agg #[.int .i64 8, .int .i64 0, .bool false, .slice A1 0 c1, .slice D1 0 d1, .bool false, .slice A2 0 c2, .slice D2 0 d2, .string ByteArray.empty, .slice R 0 rc, .slice (some ⟨b, off, none⟩) 2 lc], .int .i64 0]) (by simp [results, r0, r1, r2, r3, r4, r5, r6, r7, r8, r9, r10, go_sem]) rfl ?_
            try rw [hn]
            rw [hta.out.1, hta.out.2]
            exact ⟨_, rfl, (re.scP hP (by omega) (g := n + 2) (by omega) 0 [.int .i64 8, .int .i64 0, .bool false, .slice A1 0 c1, .slice D1 0 d1, .bool false, .slice A2 0 c2, .slice D2 0 d2, .string ByteArray.empty, .slice R 0 rc, .slice (some ⟨b, off, none⟩) 2 lc]).out _, below_cso BB (by omega) 0 [.int .i64 8, .int .i64 0, .bool false, .slice A1 0 c1, .slice D1 0 d1, .bool false, .slice A2 0 c2, .slice D2 0 d2, .string ByteArray.empty, .slice R 0 rc, .slice (some ⟨b, off, none⟩) 2 lc]⟩
          · have ho : sameD x ya = false := same_no hxy
            rw [ho]
            go_upto_region 8 with fail
            go_wp2_with fail
            go_roundg (l.length - (k + 1))
            case measure => omega
            case rel => exact ⟨k + 1, by simp, by omega, by omega, SX, S1, RX, M1, BB, hN, fun _ => ⟨by trivial, hgw⟩, fun i hi h => hto.out i hi h hxy⟩
        · have hkz : ¬ (k : Int) < (l.length : Int) := by omega
          have hta := hnone.out (fun i hi => hno.out i hi (by omega))
          replace hta := Lib.hid hta
          clear hsn hnone hhit hno
          go_wp2_with (refine wp_stD rfl rfl (.tmp 4) (.tmp 42) rfl (n + 2) rfl [.int .i64 0, .int .i64 0, .bool false, .slice none 0 0, .slice none 0 0, .bool false, .slice none 0 0, .slice none 0 0, .string { data := #[] }, .slice none 0 0, .slice none 0 0] rfl rfl _ S1 rfl (by simp [Value.oneCell']) ?_)
          have S2 := S1.cells [.int .i64 0, .int .i64 0, .bool false, .slice none 0 0, .slice none 0 0, .bool false, .slice none 0 0, .slice none 0 0, .string { data := #[] }, .slice none 0 0, .slice none 0 0] rfl
          have r0 := S2.cell 0; have r1 := S2.cell 1; have r2 := S2.cell 2; have r3 := S2.cell 3; have r4 := S2.cell 4; have r5 := S2.cell 5; have r6 := S2.cell 6; have r7 := S2.cell 7; have r8 := S2.cell 8; have r9 := S2.cell 9; have r10 := S2.cell 10
          refine bodyPost_ret (v := .tuple #[.agg #[.int .i64 0, .int .i64 0, .bool false, .slice none 0 0, .slice none 0 0, .bool false, .slice none 0 0, .slice none 0 0, .string { data := #[] }, .slice none 0 0, .slice none 0 0], .int .i64 7]) (by simp [results, r0, r1, r2, r3, r4, r5, r6, r7, r8, r9, r10, go_sem]) rfl ?_
          try rw [hn]
          rw [hta.out.1, hta.out.2]
          exact ⟨_, rfl, rd_zeroD _ _, below_cso BB (by omega) 0 [.int .i64 0, .int .i64 0, .bool false, .slice none 0 0, .slice none 0 0, .bool false, .slice none 0 0, .slice none 0 0, .string { data := #[] }, .slice none 0 0, .slice none 0 0]⟩

end Go.Proofs.YtilhnjecnhpmlaaGreatDoor
