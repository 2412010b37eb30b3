/- Merged texts: LisF, LisG, MemL, LisH. -/
import Derived.Test.YtilhnjecnhpmlaaGreatDoorGL
import Derived.Test.YtilhnjecnhpmlaaGreatDoorGK
namespace Go.Proofs.YtilhnjecnhpmlaaGreatDoor
open Go.RowKit

theorem listE_cases (d : Dat) : listE d = 2 ∨ listE d = 10 ∨ listE d = 0 := by
  unfold listE
  split
  · split
    · exact .inr (.inr rfl)
    · exact .inr (.inl rfl)
  · exact .inl rfl
theorem ROw.form {w : World} {base : Nat} {Q : Nat → Prop} {A : Option Addr} {c : Nat} {l : List Dat} (h : ROw w base Q A c l) : (A = none ∧ c = 0 ∧ l = []) ∨ ∃ g, A = some ⟨g, 0, none⟩ := by
  obtain ⟨ls, h1, h2, -⟩ := h
  rcases h1.form with ⟨h3, h4, rfl⟩ | ⟨g, h3, _⟩
  · exact .inl ⟨h3, h4, List.eq_nil_of_length_eq_zero h2.symm⟩
  · exact .inr ⟨g, h3⟩
/-- an answer made of a list's items, or the list's error -/
def ansD (d : Dat) (m : Dat) : Dat := if listE d = 0 then fitD m else zeroD
def ansE (d : Dat) (m : Dat) : Int := if listE d = 0 then fitE m else listE d
theorem ans_err {d m : Dat} (h : listE d ≠ 0) : ansD d m = zeroD ∧ ansE d m = listE d := by unfold ansD ansE; simp [h]
theorem ans_ok {d m : Dat} (h : listE d = 0) : ansD d m = fitD m ∧ ansE d m = fitE m := by unfold ansD ansE; simp [h]
def revD (d : Dat) : Dat := joinD (listL d).reverse nilD

set_option maxRecDepth 100000 in
set_option maxHeartbeats 8000000 in
theorem lreverse_any (d : Dat) (v : Value) (w : World) (P : Nat → Prop) (hP : ∀ b, P b → b < w.heap.size) (hR : RDP w P d v) (hT : Tabs w) :
    Calls Tryz.prog 30 #[v] w fun e w' => ∃ v', e = .returned (.tuple #[v', .int .i64 (ansE d (revD d))]) ∧ RDP w' (Out P w.heap.size w') (ansD d (revD d)) v' ∧ Below w.heap.size w w' := by
  obtain ⟨ls, rfl, ll, lo⟩ := hR.agg
  match ls, ll, lo with
  | [y0, y1, y2, y3, y4, y5, y6, y7, y8, y9, y10], _, lo =>
  have S0 := SB.new w [y0, y1, y2, y3, y4, y5, y6, y7, y8, y9, y10] 30
  have BB := bal w (.cells #[y0, y1, y2, y3, y4, y5, y6, y7, y8, y9, y10] 30)
  have S1 := SB.new (w.alloc (.cells #[y0, y1, y2, y3, y4, y5, y6, y7, y8, y9, y10] 30)) [.int .i64 0, .int .i64 0, .bool false, .slice none 0 0, .slice none 0 0, .bool false, .slice none 0 0, .slice none 0 0, .string { data := #[] }, .slice none 0 0, .slice none 0 0] 30
  have z1 : (w.alloc (.cells #[y0, y1, y2, y3, y4, y5, y6, y7, y8, y9, y10] 30)).heap.size = w.heap.size + 1 := by simp
  have B1 := bal (w.alloc (.cells #[y0, y1, y2, y3, y4, y5, y6, y7, y8, y9, y10] 30)) (.cells #[.int .i64 0, .int .i64 0, .bool false, .slice none 0 0, .slice none 0 0, .bool false, .slice none 0 0, .slice none 0 0, .string { data := #[] }, .slice none 0 0, .slice none 0 0] 30)
  have S0 := S0.nx B1
  have BB := bt BB B1
  rw [z1] at S1
  clear B1 z1
  have R0 : RDP _ P d _ := hR.step (fun z hz => BB.block z (hP z hz)) (fun z hz => hz)
  obtain ⟨W0, hW0⟩ : ∃ W0, W0 = (w.alloc (.cells #[y0, y1, y2, y3, y4, y5, y6, y7, y8, y9, y10] 30)).alloc (.cells #[.int .i64 0, .int .i64 0, .bool false, .slice none 0 0, .slice none 0 0, .bool false, .slice none 0 0, .slice none 0 0, .string { data := #[] }, .slice none 0 0, .slice none 0 0] 30) := ⟨_, rfl⟩
  have hN : w.heap.size + 2 ≤ W0.heap.size := by rw [hW0]; simp
  rw [← hW0] at S0 S1 BB R0
  go_enter Tryz.func30, Tryz.ntmps30
  go_upto_region 1 with fail
  rw [← hW0]
  clear hW0 hR
  generalize hn : w.heap.size = n at *
  have k0 := S0.cell 0; have k1 := S0.cell 1; have k2 := S0.cell 2; have k3 := S0.cell 3; have k4 := S0.cell 4; have k5 := S0.cell 5; have k6 := S0.cell 6; have k7 := S0.cell 7; have k8 := S0.cell 8; have k9 := S0.cell 9; have k10 := S0.cell 10
  go_wp2_with fail
  refine (lread_any d _ W0 P (fun z hz => by have := hP z hz; omega) R0 (hT.go hn BB)).mono ?_
  rintro e w2 ⟨A, c, rfl, O2, B2⟩
  clear k0 k1 k2 k3 k4 k5 k6 k7 k8 k9 k10
  have S1 := S1.nx B2
  have BB := BB.trans (B2.mono (by omega))
  have hlc := O2.len
  obtain ⟨g, hg1, hg, M0⟩ := O2.mut'
  have hform := O2.form
  have hg1 : n + 2 ≤ g := by omega
  have hN := Nat.le_trans hN B2.size
  have hlen := listL_len d
  clear S0 R0 O2 B2
  rcases listE_cases d with he | he | he
  · rw [he]
    go_wp2_with (refine wp_stD rfl rfl (.tmp 2) (.tmp 13) rfl (n + 1) rfl [.int .i64 0, .int .i64 0, .bool false, .slice none 0 0, .slice none 0 0, .bool false, .slice none 0 0, .slice none 0 0, .string { data := #[] }, .slice none 0 0, .slice none 0 0] rfl rfl _ S1 rfl (by simp [Value.oneCell']) ?_)
    have S2 := S1.cells [.int .i64 0, .int .i64 0, .bool false, .slice none 0 0, .slice none 0 0, .bool false, .slice none 0 0, .slice none 0 0, .string { data := #[] }, .slice none 0 0, .slice none 0 0] rfl
    have r0 := S2.cell 0; have r1 := S2.cell 1; have r2 := S2.cell 2; have r3 := S2.cell 3; have r4 := S2.cell 4; have r5 := S2.cell 5; have r6 := S2.cell 6; have r7 := S2.cell 7; have r8 := S2.cell 8; have r9 := S2.cell 9; have r10 := S2.cell 10
    refine bodyPost_ret (v := .tuple #[.agg #[.int .i64 0, .int .i64 0, .bool false, .slice none 0 0, .slice none 0 0, .bool false, .slice none 0 0, .slice none 0 0, .string { data := #[] }, .slice none 0 0, .slice none 0 0], .int .i64 2]) (by simp [results, r0, r1, r2, r3, r4, r5, r6, r7, r8, r9, r10, go_sem]) rfl ?_
    try rw [hn]
    rw [(ans_err (by rw [he]; decide)).1, (ans_err (by rw [he]; decide)).2, he]
    exact ⟨_, rfl, rd_zeroD _ _, below_cso BB (by omega) 0 [.int .i64 0, .int .i64 0, .bool false, .slice none 0 0, .slice none 0 0, .bool false, .slice none 0 0, .slice none 0 0, .string { data := #[] }, .slice none 0 0, .slice none 0 0]⟩
  · rw [he]
    go_wp2_with (refine wp_stD rfl rfl (.tmp 2) (.tmp 13) rfl (n + 1) rfl [.int .i64 0, .int .i64 0, .bool false, .slice none 0 0, .slice none 0 0, .bool false, .slice none 0 0, .slice none 0 0, .string { data := #[] }, .slice none 0 0, .slice none 0 0] rfl rfl _ S1 rfl (by simp [Value.oneCell']) ?_)
    have S2 := S1.cells [.int .i64 0, .int .i64 0, .bool false, .slice none 0 0, .slice none 0 0, .bool false, .slice none 0 0, .slice none 0 0, .string { data := #[] }, .slice none 0 0, .slice none 0 0] rfl
    have r0 := S2.cell 0; have r1 := S2.cell 1; have r2 := S2.cell 2; have r3 := S2.cell 3; have r4 := S2.cell 4; have r5 := S2.cell 5; have r6 := S2.cell 6; have r7 := S2.cell 7; have r8 := S2.cell 8; have r9 := S2.cell 9; have r10 := S2.cell 10
    refine bodyPost_ret (v := .tuple #[.agg #[.int .i64 0, .int .i64 0, .bool false, .slice none 0 0, .slice none 0 0, .bool false, .slice none 0 0, .slice none 0 0, .string { data := #[] }, .slice none 0 0, .slice none 0 0], .int .i64 10]) (by simp [results, r0, r1, r2, r3, r4, r5, r6, r7, r8, r9, r10, go_sem]) rfl ?_
    try rw [hn]
    rw [(ans_err (by rw [he]; decide)).1, (ans_err (by rw [he]; decide)).2, he]
    exact ⟨_, rfl, rd_zeroD _ _, below_cso BB (by omega) 0 [.int .i64 0, .int .i64 0, .bool false, .slice none 0 0, .slice none 0 0, .bool false, .slice none 0 0, .slice none 0 0, .string { data := #[] }, .slice none 0 0, .slice none 0 0]⟩
  · rw [he]
    generalize hl0 : listL d = l at *
    replace hl0 := Lib.hid hl0
    replace he := Lib.hid he
    clear hform
    go_upto_region 4 with fail
    go_wp2_with fail
    refine (srev_any A c l g 0 w2 P (fun h => (hg h).1) (fun b hb => by have := hP b hb; omega) M0 (by omega)).mono ?_
    rintro e w3 ⟨rfl, M3, B3, hs3⟩
    have S1 := S1.lo B3 (by omega)
    have BB := BB.trans (B3.mono (by omega))
    have hN : n + 2 ≤ w3.heap.size := by omega
    have L3 : RLs w3 (Out P (n + 2) w3) A c l.reverse := M3.rls' (by rw [List.length_reverse]; exact hlc) (by rw [List.length_reverse]; omega) (fun h => (hg (by rw [List.length_reverse] at h; exact h)).1) (fun b hb => .inl hb) (fun h => .inr ⟨by omega, by have := (hg (by rw [List.length_reverse] at h; exact h)).2; omega⟩)
    clear M0 M3 hg B3
    go_wp2_with fail
    refine (none_any w3).mono ?_
    rintro e w4 ⟨vn, rfl, Rn, B4⟩
    have S1 := S1.nx B4
    have L3 := L3.go hP (by omega) B4
    have BB := BB.trans (B4.mono (by omega))
    have hN := Nat.le_trans hN B4.size
    have Rn := Rn w4 (Out P (n + 2) w4)
    have cj := join_any A c l.reverse nilD vn w4 (Out P (n + 2) w4) (Out.all hP (by omega)) L3 Rn
    rw [List.length_reverse] at cj
    go_wp2_with fail
    refine cj.mono ?_
    clear cj
    rintro e w5 ⟨vj, rfl, Rj, B5⟩
    have Rj := Rj.res hN B5.size
    have S1 := S1.nx B5
    have L3 := L3.go hP (by omega) B5
    have BB := BB.trans (B5.mono (by omega))
    have hN := Nat.le_trans hN B5.size
    go_wp2_with fail
    refine (lfit_any _ vj w5 _ (Out.all hP (by omega)) Rj (hT.go hn BB)).mono ?_
    rintro e w6 ⟨vf, rfl, Rf, B6⟩
    have Rf := Rf.res hN B6.size
    have S1 := S1.nx B6
    have L3 := L3.go hP (by omega) B6
    have BB := BB.trans (B6.mono (by omega))
    have hN := Nat.le_trans hN B6.size
    obtain ⟨cs, rfl, cl, co⟩ := Rf.agg
    match cs, cl, co with
    | [x0, x1, x2, x3, x4, x5, x6, x7, x8, x9, x10], _, co =>
    go_wp2_with (refine wp_stD rfl rfl (.tmp 2) (.tmp 21) rfl (n + 1) rfl [x0, x1, x2, x3, x4, x5, x6, x7, x8, x9, x10] rfl rfl _ S1 rfl co ?_)
    have S2 := S1.cells [x0, x1, x2, x3, x4, x5, x6, x7, x8, x9, x10] rfl
    have r0 := S2.cell 0; have r1 := S2.cell 1; have r2 := S2.cell 2; have r3 := S2.cell 3; have r4 := S2.cell 4; have r5 := S2.cell 5; have r6 := S2.cell 6; have r7 := S2.cell 7; have r8 := S2.cell 8; have r9 := S2.cell 9; have r10 := S2.cell 10
    refine bodyPost_ret (v := .tuple #[.agg #[x0, x1, x2, x3, x4, x5, x6, x7, x8, x9, x10], .int .i64 (fitE (joinD l.reverse nilD))]) (by simp [results, r0, r1, r2, r3, r4, r5, r6, r7, r8, r9, r10, go_sem]) rfl ?_
    try rw [hn]
    rw [(ans_ok he.out).1, (ans_ok he.out).2]
    unfold revD
    rw [hl0.out]
    exact ⟨_, rfl, (Rf.scO hP (by omega) (g := n + 1) (by omega) (by omega) 0 [x0, x1, x2, x3, x4, x5, x6, x7, x8, x9, x10]).from_ (by omega), below_cso BB (by omega) 0 [x0, x1, x2, x3, x4, x5, x6, x7, x8, x9, x10]⟩

end Go.Proofs.YtilhnjecnhpmlaaGreatDoor
namespace Go.Proofs.YtilhnjecnhpmlaaGreatDoor
open Go.RowKit

end Go.Proofs.YtilhnjecnhpmlaaGreatDoor
namespace Go.Proofs.YtilhnjecnhpmlaaGreatDoor
open Go.RowKit

theorem run_append_nilk {P : Program} (w : World) {base size : Nat} {T ty e : TypeId} {i : TypeInfo} (ht : P.underlying T = some (.slice e)) (hi : P.info? e = some i)
    {v : Value} {n : Nat} {xs : List Value} (hown : w.ownsRow base e size v n xs) (ad : Option Addr) (d : Nat) : (Builtin.append_ #[T, T] ty #[v, .slice ad 0 d]).run P w = .ok v w := by
  cases ad with
  | none =>
    rcases hown.2 with ⟨rfl, rfl⟩ | ⟨g, cap, cur, rfl, _, _, hnc, _⟩
    · simp [Builtin.append_, run_underlying ht, sizeOf, typeInfo, hi, Builtin.lenOf, Builtin.firstCells]
    · simp [Builtin.append_, run_underlying ht, sizeOf, typeInfo, hi, Builtin.lenOf, Builtin.firstCells, hnc, storeCells]
  | some ad =>
    rcases hown.2 with ⟨rfl, rfl⟩ | ⟨g, cap, cur, rfl, _, _, hnc, _⟩
    · simp [Builtin.append_, run_underlying ht, sizeOf, typeInfo, hi, Builtin.lenOf, Builtin.firstCells, loadCells, loadCellsFrom]
    · simp [Builtin.append_, run_underlying ht, sizeOf, typeInfo, hi, Builtin.lenOf, Builtin.firstCells, hnc, storeCells, loadCells, loadCellsFrom]
/-- append(v, r...) -/
theorem wp_appK {P : Program} (w : World) {ops : Array Oper} {rest : List Oper} {o : Oper} {a : Act} {Q : Exit → Act → World → Prop}
    (T e : TypeId) {α : Type} (k : Nat) (f : α → List Value) (z : Value) (by_ : Nat) (hu : P.underlying T = some (.slice e)) (hi : (P.info? e).map (fun i => (i.zero, i.size, i.bytes)) = some (some z, k, by_)) (hz : z.cells.size = k) (hk0 : 0 < k)
    (hf : ∀ x : α, (f x).length = k) (h1 : ∀ (x : α), ∀ u ∈ f x, u.oneCell' = true)
    (hg : o.guard = none) (s x : Operand) (hop : o.op = Op.call { callee := Callee.builtin Builtin.append, args := #[s, x], argTypes := #[T, T] })
    (base : Nat) (A : Option Addr) (c n : Nat) (l : List α) (hs : a.eval s = .slice A n c) (hn : n = l.length) (hown : OK e k f w base A c l)
    (D : Option Addr) (d m : Nat) (r : List α) (hx : a.eval x = .slice D m d) (hm : m = r.length) (hr : 0 < r.length → ∃ b off, D = some ⟨b, off, none⟩ ∧ ∀ j u, (r.flatMap f)[j]? = some u → w.cell? ⟨b, off + j, none⟩ = some u)
    (hlen : l.length + r.length ≤ 35184372088832) (hby : (l.length + r.length) * by_ ≤ 140737488355328) (hbase : base ≤ w.heap.size)
    (hK : ∀ A' c' w', OK e k f w' base A' c' (l ++ r) → w.grownBy w' (Value.slice A n c).ownBlock → wpList P ops Q rest (a.put o.dst (.slice A' (l.length + r.length) c')) w') :
    wpList P ops Q (o :: rest) a w := by
  obtain ⟨i, hi, h0, hi1, h2⟩ := info_parts hi
  subst hn
  subst hm
  refine wpList_plain hg fun K hK' => ?_
  obtain ⟨v', w', hrun, q1, q2⟩ : ∃ v' w', (Builtin.append_ #[T, T] o.type #[.slice A l.length c, .slice D r.length d]).run P w = .ok v' w' ∧ w'.ownsRow base e k v' (l.length + r.length) (l.flatMap f ++ r.flatMap f) ∧ w.grownBy w' (Value.slice A l.length c).ownBlock := by
    by_cases hr0 : 0 < r.length
    · obtain ⟨b, off, rfl, hc⟩ := hr hr0
      obtain ⟨v', w', hrun, q1, q2, _, q4⟩ := run_append_own_at (P := P) w base T o.type e i z k by_ hu hi h0 hi1 h2 hz hk0 (.slice A l.length c) l.length (l.flatMap f) hown ⟨b, off, none⟩ r.length d (r.flatMap f) (len_flat hf r)
        (fun j u hj => by rw [Addr.add_lit]; exact hc j u hj) (fun u hu => by obtain ⟨y, _, hy⟩ := List.mem_flatMap.1 hu; exact h1 y u hy) (by unfold maxLen; omega) hby hbase
      exact ⟨v', w', hrun, q1, q2⟩
    · obtain rfl : r = [] := List.eq_nil_of_length_eq_zero (by omega)
      exact ⟨_, w, run_append_nilk w hu hi hown D d, by unfold OK at hown; simpa using hown, World.grownBy.refl w _⟩
  have e1 : l.flatMap f ++ r.flatMap f = (l ++ r).flatMap f := by simp
  have e2 : (l ++ r).length = l.length + r.length := by simp
  rw [e1] at q1
  unfold Oper.wp execOp
  simp only [hop, resolve, invoke, builtin, Sem.run_bind, Sem.run_pure, Result.andThen_ok, List.map_toArray, List.map_cons, List.map_nil, hs, hx, hrun]
  rcases q1.2 with ⟨rfl, hz⟩ | ⟨g, cap, cur, rfl, a1⟩
  · have h3 := hK none 0 w' (by unfold OK; rw [e2, hz]; rw [hz] at q1; exact q1) q2
    rw [hz] at h3
    exact hK' _ _ h3
  · exact hK' _ _ (hK (some ⟨g, 0, none⟩) cap w' (by unfold OK; rw [e2]; exact q1) q2)
end Go.Proofs.YtilhnjecnhpmlaaGreatDoor
namespace Go.Proofs.YtilhnjecnhpmlaaGreatDoor
open Go.RowKit

/-- the element at i -/
theorem RLs.at_ {w : World} {P : Nat → Prop} {A : Option Addr} {c : Nat} {l : List Dat} (h : RLs w P A c l) {i : Nat} (hi : i < l.length) :
    ∃ b off, A = some ⟨b, off, none⟩ ∧ P b ∧ ∃ cs : List Value, cs.length = 11 ∧ (∀ u ∈ cs, u.oneCell' = true) ∧ RDP w P l[i] (.agg cs.toArray) ∧ w.rangeAt b (off + i * 11) cs := by
  obtain ⟨b, off, hA, hb, hds⟩ := h.2.2 (by omega)
  obtain ⟨vx, Rx, cx⟩ := hds.get (List.getElem?_eq_getElem hi)
  obtain ⟨xs, rfl, xl, xo⟩ := Rx.agg
  exact ⟨b, off, hA, hb, xs, xl, xo, Rx, fun j u hj => by have := cx _ rfl j u (by simpa using hj); simpa using this⟩
theorem all_of {l : List Dat} {f : Dat → Bool} (h : ∀ i (hi : i < l.length), f l[i] = true) : l.all f = true := List.all_eq_true.2 fun x hx => by
  obtain ⟨i, hi, rfl⟩ := List.getElem_of_mem hx
  exact h i hi
end Go.Proofs.YtilhnjecnhpmlaaGreatDoor
