/- Walks: the reference's merge sort. -/
import Derived.Test.YtilhnjecnhpmlaaGreatDoorGX
import Derived.Test.YtilhnjecnhpmlaaGreatDoorGY
import Derived.Test.YtilhnjecnhpmlaaGreatDoorGN
namespace Go.Proofs.YtilhnjecnhpmlaaGreatDoor
open Go.RowKit

set_option maxRecDepth 100000 in
set_option maxHeartbeats 8000000 in
theorem rless_off (x y : Dat) (vx vy : Value) (w : World) (P : Nat → Prop) (hP : ∀ b, P b → b < w.heap.size) (gx : x.Good vU) (gy : y.Good vU) (hX : RDP w P x vx) (hY : RDP w P y vy) :
    Calls Tryz.prog 61 #[vx, vy, .bool false] w fun e w' => e = .returned (.bool (decide (ordQ x y < 0))) ∧ Below w.heap.size w w' := by
  obtain ⟨ls, rfl, ll, lo⟩ := hX.agg
  obtain ⟨ms, rfl, ml, mo⟩ := hY.agg
  match ls, ll, lo, ms, ml, mo with
  | [y0, y1, y2, y3, y4, y5, y6, y7, y8, y9, y10], _, lo, [x0, x1, x2, x3, x4, x5, x6, x7, x8, x9, x10], _, mo =>
  have S0 := SB.new w [y0, y1, y2, y3, y4, y5, y6, y7, y8, y9, y10] 30
  have BB := bal w (.cells #[y0, y1, y2, y3, y4, y5, y6, y7, y8, y9, y10] 30)
  have S1 := SB.new (w.alloc (.cells #[y0, y1, y2, y3, y4, y5, y6, y7, y8, y9, y10] 30)) [x0, x1, x2, x3, x4, x5, x6, x7, x8, x9, x10] 30
  have z1 : (w.alloc (.cells #[y0, y1, y2, y3, y4, y5, y6, y7, y8, y9, y10] 30)).heap.size = w.heap.size + 1 := by simp
  have B1 := bal (w.alloc (.cells #[y0, y1, y2, y3, y4, y5, y6, y7, y8, y9, y10] 30)) (.cells #[x0, x1, x2, x3, x4, x5, x6, x7, x8, x9, x10] 30)
  have S0 := S0.nx B1
  have BB := bt BB B1
  rw [z1] at S1
  clear B1 z1
  have RX : RDP _ P x _ := hX.step (fun z hz => BB.block z (hP z hz)) (fun z hz => hz)
  have RY : RDP _ P y _ := hY.step (fun z hz => BB.block z (hP z hz)) (fun z hz => hz)
  obtain ⟨W0, hW0⟩ : ∃ W0, W0 = (w.alloc (.cells #[y0, y1, y2, y3, y4, y5, y6, y7, y8, y9, y10] 30)).alloc (.cells #[x0, x1, x2, x3, x4, x5, x6, x7, x8, x9, x10] 30) := ⟨_, rfl⟩
  have hN : w.heap.size + 2 ≤ W0.heap.size := by rw [hW0]; simp
  rw [← hW0] at S0 S1 BB RX RY
  clear hX hY
  go_enter Tryz.func61, Tryz.ntmps61
  go_upto_region 3 with fail
  rw [← hW0]
  clear hW0
  generalize hn : w.heap.size = n at *
  have i0 := S0.cell 0; have i1 := S0.cell 1; have i2 := S0.cell 2; have i3 := S0.cell 3; have i4 := S0.cell 4; have i5 := S0.cell 5; have i6 := S0.cell 6; have i7 := S0.cell 7; have i8 := S0.cell 8; have i9 := S0.cell 9; have i10 := S0.cell 10
  have j0 := S1.cell 0; have j1 := S1.cell 1; have j2 := S1.cell 2; have j3 := S1.cell 3; have j4 := S1.cell 4; have j5 := S1.cell 5; have j6 := S1.cell 6; have j7 := S1.cell 7; have j8 := S1.cell 8; have j9 := S1.cell 9; have j10 := S1.cell 10
  go_wp2_with fail
  refine (rord_any (RX.snd hP (by omega)) (RY.snd hP (by omega)) gx gy).mono ?_
  rintro e w5 ⟨rfl, B5⟩
  clear i0 i1 i2 i3 i4 i5 i6 i7 i8 i9 i10
  clear j0 j1 j2 j3 j4 j5 j6 j7 j8 j9 j10
  have BB := BB.trans (B5.mono (by omega))
  go_wp2_with fail
  go_ret
  try rw [hn]
  exact ⟨rfl, BB⟩

set_option maxRecDepth 100000 in
set_option maxHeartbeats 8000000 in
theorem rless_on (x y : Dat) (vx vy : Value) (w : World) (P : Nat → Prop) (hP : ∀ b, P b → b < w.heap.size) (gx : GR true x) (gy : GR true y) (hX : RDP w P x vx) (hY : RDP w P y vy) :
    Calls Tryz.prog 61 #[vx, vy, .bool true] w fun e w' => e = .returned (.bool (decide (ordC x y < 0))) ∧ Below w.heap.size w w' := by
  obtain ⟨xa, xb, rfl⟩ := good_pair gx.1 (gx.2 rfl)
  obtain ⟨ya, yb, rfl⟩ := good_pair gy.1 (gy.2 rfl)
  have gxa := ((pair_good vU_nil).1 gx.1).1
  have gya := ((pair_good vU_nil).1 gy.1).1
  rw [show ordC (pairD xa xb) (pairD ya yb) = xa.ord numQ ya from rfl]
  clear gx gy
  obtain ⟨A1, c1, D1, d1, A2, c2, D2, d2, R, rc, b, off, lc, rfl, hPb, -, cx, cy, lx, ly, ox, RhX, -, khX, -⟩ := pairD_view hX
  obtain ⟨A1', c1', D1', d1', A2', c2', D2', d2', R', rc', b', off', lc', rfl, hPb', -, cx', cy', lx', ly', ox', RhY, -, khY, -⟩ := pairD_view hY
  match cx, lx, ox, cx', lx', ox' with
  | [x0, x1, x2, x3, x4, x5, x6, x7, x8, x9, x10], _, ox, [z0, z1, z2, z3, z4, z5, z6, z7, z8, z9, z10], _, ox' =>
  clear hX hY
  have hbn := hP b hPb
  have hbn' := hP b' hPb'
  have S0 := SB.new w [.int .i64 8, .int .i64 0, .bool false, .slice A1 0 c1, .slice D1 0 d1, .bool false, .slice A2 0 c2, .slice D2 0 d2, .string ByteArray.empty, .slice R 0 rc, .slice (some ⟨b, off, none⟩) 2 lc] 30
  have BB := bal w (.cells #[.int .i64 8, .int .i64 0, .bool false, .slice A1 0 c1, .slice D1 0 d1, .bool false, .slice A2 0 c2, .slice D2 0 d2, .string ByteArray.empty, .slice R 0 rc, .slice (some ⟨b, off, none⟩) 2 lc] 30)
  have S1 := SB.new (w.alloc (.cells #[.int .i64 8, .int .i64 0, .bool false, .slice A1 0 c1, .slice D1 0 d1, .bool false, .slice A2 0 c2, .slice D2 0 d2, .string ByteArray.empty, .slice R 0 rc, .slice (some ⟨b, off, none⟩) 2 lc] 30)) [.int .i64 8, .int .i64 0, .bool false, .slice A1' 0 c1', .slice D1' 0 d1', .bool false, .slice A2' 0 c2', .slice D2' 0 d2', .string ByteArray.empty, .slice R' 0 rc', .slice (some ⟨b', off', none⟩) 2 lc'] 30
  have z1 : (w.alloc (.cells #[.int .i64 8, .int .i64 0, .bool false, .slice A1 0 c1, .slice D1 0 d1, .bool false, .slice A2 0 c2, .slice D2 0 d2, .string ByteArray.empty, .slice R 0 rc, .slice (some ⟨b, off, none⟩) 2 lc] 30)).heap.size = w.heap.size + 1 := by simp
  have B1 := bal (w.alloc (.cells #[.int .i64 8, .int .i64 0, .bool false, .slice A1 0 c1, .slice D1 0 d1, .bool false, .slice A2 0 c2, .slice D2 0 d2, .string ByteArray.empty, .slice R 0 rc, .slice (some ⟨b, off, none⟩) 2 lc] 30)) (.cells #[.int .i64 8, .int .i64 0, .bool false, .slice A1' 0 c1', .slice D1' 0 d1', .bool false, .slice A2' 0 c2', .slice D2' 0 d2', .string ByteArray.empty, .slice R' 0 rc', .slice (some ⟨b', off', none⟩) 2 lc'] 30)
  have S0 := S0.nx B1
  have BB := bt BB B1
  rw [z1] at S1
  clear B1 z1
  have Rx : RDP _ P xa _ := RhX.step (fun z hz => BB.block z (hP z hz)) (fun z hz => hz)
  have Ry : RDP _ P ya _ := RhY.step (fun z hz => BB.block z (hP z hz)) (fun z hz => hz)
  have rx := range_nx khX BB hbn
  have ry := range_nx khY BB hbn'
  have hbx := Nat.lt_of_lt_of_le hbn BB.size
  have hby := Nat.lt_of_lt_of_le hbn' BB.size
  obtain ⟨W0, hW0⟩ : ∃ W0, W0 = (w.alloc (.cells #[.int .i64 8, .int .i64 0, .bool false, .slice A1 0 c1, .slice D1 0 d1, .bool false, .slice A2 0 c2, .slice D2 0 d2, .string ByteArray.empty, .slice R 0 rc, .slice (some ⟨b, off, none⟩) 2 lc] 30)).alloc (.cells #[.int .i64 8, .int .i64 0, .bool false, .slice A1' 0 c1', .slice D1' 0 d1', .bool false, .slice A2' 0 c2', .slice D2' 0 d2', .string ByteArray.empty, .slice R' 0 rc', .slice (some ⟨b', off', none⟩) 2 lc'] 30) := ⟨_, rfl⟩
  have hN : w.heap.size + 2 ≤ W0.heap.size := by rw [hW0]; simp
  rw [← hW0] at S0 S1 BB Rx Ry rx ry hbx hby
  clear RhX RhY khX khY
  go_enter Tryz.func61, Tryz.ntmps61
  go_upto_region 2 with fail
  rw [← hW0]
  clear hW0
  generalize hn : w.heap.size = n at *
  have c10 : W0.cell? ⟨n, 10, none⟩ = some (.slice (some ⟨b, off, none⟩) 2 lc) := S0.cell 10
  have d10 : W0.cell? ⟨n + 1, 10, none⟩ = some (.slice (some ⟨b', off', none⟩) 2 lc') := S1.cell 10
  have Dw := (Below.refl W0.heap.size W0).drew
  have S0 := S0.nx Dw
  have S1 := S1.nx Dw
  have Rx := Rx.keeps hP (by omega) Dw
  have Ry := Ry.keeps hP (by omega) Dw
  have rx := range_nx rx Dw (by omega)
  have ry := range_nx ry Dw (by omega)
  have hbx := Nat.lt_of_lt_of_le hbx Dw.size
  have hby := Nat.lt_of_lt_of_le hby Dw.size
  have c10 := (Dw.cell (p := ⟨n, 10, none⟩) (show n < _ by omega)).trans c10
  have d10 := (Dw.cell (p := ⟨n + 1, 10, none⟩) (show n + 1 < _ by omega)).trans d10
  have BB := BB.trans (Dw.mono (by omega))
  have hN := Nat.le_trans hN Dw.size
  clear Dw
  refine AnyW.regionQ (fun _ => false) 11 (fun w' => w'.cell? ⟨n, 10, none⟩ = some (.slice (some ⟨b, off, none⟩) 2 lc) ∧ w'.cell? ⟨(n + 1), 10, none⟩ = some (.slice (some ⟨b', off', none⟩) 2 lc') ∧ w'.rangeAt b off [x0, x1, x2, x3, x4, x5, x6, x7, x8, x9, x10] ∧ w'.rangeAt b' off' [z0, z1, z2, z3, z4, z5, z6, z7, z8, z9, z10]) rfl (by kernel_rfl) (by kernel_rfl) (by (repeat (with_reducible (first | refine quiet_then ?_ | refine quiet_block ?_))); exact quiet_body) ⟨(c10), (d10), (rx), (ry)⟩ (fun Q' hQK hq hns hHeld => ?_)
  generalize W0.drew = w9 at *
  refine AnyW.nextT (i := 0) (v := ?_) hq hns (.inr hHeld) rfl rfl (by kernel_rfl) (Or.inl ⟨by rfl, ?_⟩) ?_
  rotate_left
  · intro w' _; go_simp <;> with_reducible rfl
  try simp only [List.setIfInBounds_toArray, List.set_cons_zero, List.set_cons_succ]
  refine AnyW.next (i := 1) (v := ?_) hq hns hHeld rfl rfl (by kernel_rfl) (Or.inl ⟨by rfl, ?_⟩) ?_
  rotate_left
  · intro w' hSw
    have hc1 := hSw.1
    clear hSw
    go_simp <;> with_reducible rfl
  try simp only [List.setIfInBounds_toArray, List.set_cons_zero, List.set_cons_succ]
  refine AnyW.nextT (i := 2) (v := ?_) hq hns (.inr hHeld) rfl rfl (by kernel_rfl) (Or.inl ⟨by rfl, ?_⟩) ?_
  rotate_left
  · intro w' _; go_simp <;> with_reducible rfl
  try simp only [List.setIfInBounds_toArray, List.set_cons_zero, List.set_cons_succ]
  refine AnyW.next (i := 3) (v := .agg [x0, x1, x2, x3, x4, x5, x6, x7, x8, x9, x10].toArray) hq hns hHeld rfl rfl (by kernel_rfl) (yieldsIf_load_mid (by rfl) 30 (.tmp 10) rfl b off rfl [x0, x1, x2, x3, x4, x5, x6, x7, x8, x9, x10] _ (fun w' h => h.2.2.1) Tryz.underlying30 rfl (infoD.trans (by rfl))) ?_
  try simp only [List.setIfInBounds_toArray, List.set_cons_zero, List.set_cons_succ]
  refine AnyW.nextT (i := 4) (v := ?_) hq hns (.inr hHeld) rfl rfl (by kernel_rfl) (Or.inl ⟨by rfl, ?_⟩) ?_
  rotate_left
  · intro w' _; go_simp <;> with_reducible rfl
  try simp only [List.setIfInBounds_toArray, List.set_cons_zero, List.set_cons_succ]
  refine AnyW.next (i := 5) (v := ?_) hq hns hHeld rfl rfl (by kernel_rfl) (Or.inl ⟨by rfl, ?_⟩) ?_
  rotate_left
  · intro w' hSw
    have hc1 := hSw.2.1
    clear hSw
    go_simp <;> with_reducible rfl
  try simp only [List.setIfInBounds_toArray, List.set_cons_zero, List.set_cons_succ]
  refine AnyW.nextT (i := 6) (v := ?_) hq hns (.inr hHeld) rfl rfl (by kernel_rfl) (Or.inl ⟨by rfl, ?_⟩) ?_
  rotate_left
  · intro w' _; go_simp <;> with_reducible rfl
  try simp only [List.setIfInBounds_toArray, List.set_cons_zero, List.set_cons_succ]
  refine AnyW.next (i := 7) (v := .agg [z0, z1, z2, z3, z4, z5, z6, z7, z8, z9, z10].toArray) hq hns hHeld rfl rfl (by kernel_rfl) (yieldsIf_load_mid (by rfl) 30 (.tmp 14) rfl b' off' rfl [z0, z1, z2, z3, z4, z5, z6, z7, z8, z9, z10] _ (fun w' h => h.2.2.2) Tryz.underlying30 rfl (infoD.trans (by rfl))) ?_
  try simp only [List.setIfInBounds_toArray, List.set_cons_zero, List.set_cons_succ]
  refine AnyW.one 8 (by kernel_rfl) rfl (fun K' hK => ?_)
  go_simp
  refine (rord_any (Rx.snd hP (by omega)) (Ry.snd hP (by omega)) gxa gya).mono ?_
  rintro e w5 ⟨rfl, B5⟩
  go_wp2_with fail
  have S0 := S0.nx B5
  have S1 := S1.nx B5
  have Rx := Rx.keeps hP (by omega) B5
  have Ry := Ry.keeps hP (by omega) B5
  have rx := range_nx rx B5 (by omega)
  have ry := range_nx ry B5 (by omega)
  have hbx := Nat.lt_of_lt_of_le hbx B5.size
  have hby := Nat.lt_of_lt_of_le hby B5.size
  have c10 := (B5.cell (p := ⟨n, 10, none⟩) (show n < _ by omega)).trans c10
  have d10 := (B5.cell (p := ⟨n + 1, 10, none⟩) (show n + 1 < _ by omega)).trans d10
  have BB := BB.trans (B5.mono (by omega))
  have hN := Nat.le_trans hN B5.size
  refine hK.out _ _ (.inr ⟨(c10), (d10), (rx), (ry)⟩) (fun hG => ?_)
  have hHeld := hG.resolve_left (notGone.spec (by rfl))
  clear hK K' hG
  try simp only [List.setIfInBounds_toArray, List.set_cons_zero, List.set_cons_succ]
  refine AnyW.nextT (i := 9) (v := ?_) hq hns (.inr hHeld) rfl rfl (by kernel_rfl) (Or.inl ⟨by rfl, ?_⟩) ?_
  rotate_left
  · intro w' _; go_simp <;> with_reducible rfl
  try simp only [List.setIfInBounds_toArray, List.set_cons_zero, List.set_cons_succ]
  refine AnyW.nextT (i := 10) (v := ?_) hq hns (.inr hHeld) rfl rfl (by kernel_rfl) (Or.inl ⟨by rfl, ?_⟩) ?_
  rotate_left
  · intro w' _; go_simp <;> with_reducible rfl
  try simp only [List.setIfInBounds_toArray, List.set_cons_zero, List.set_cons_succ]
  refine AnyW.done (by kernel_rfl) (hQK.out _ _ ?_)
  clear hQK hq hns hHeld
  go_wp2_with fail
  go_ret
  try rw [hn]
  exact ⟨by first | rfl | simp, BB⟩

theorem rlessD_any (c : Bool) (x y : Dat) (vx vy : Value) (w : World) (P : Nat → Prop) (hP : ∀ b, P b → b < w.heap.size) (gx : GR c x) (gy : GR c y) (hX : RDP w P x vx) (hY : RDP w P y vy) :
    Calls Tryz.prog 61 #[vx, vy, .bool c] w fun e w' => e = .returned (.bool (decide (cmpR c x y < 0))) ∧ Below w.heap.size w w' := by
  cases c
  · exact rless_off x y vx vy w P hP gx.1 gy.1 hX hY
  · exact rless_on x y vx vy w P hP gx gy hX hY

theorem RDPs.cells {w : World} {P : Nat → Prop} {b : Nat} : ∀ (l : List Dat) (off : Nat), RDPs w P l b off → ∃ rs : List C11, rs.length = l.length ∧ (∀ (i : Nat) (x : Dat), l[i]? = some x → ∃ cs : C11, rs[i]? = some cs ∧ RDP w P x (.agg cs.1.toArray)) ∧ ∀ (j : Nat) (u : Value), (rs.flatMap Subtype.val)[j]? = some u → w.cell? ⟨b, off + j, none⟩ = some u
  | [], off, _ => ⟨[], rfl, fun i x h => by simp at h, fun j u h => by simp at h⟩
  | x :: xs, off, h => by
    rw [RDPs] at h
    obtain ⟨⟨v, h1, h2⟩, h3⟩ := h
    obtain ⟨cs, rfl, hl, ho⟩ := h1.agg
    obtain ⟨rs, g1, g2, g3⟩ := RDPs.cells xs (off + 11) h3
    refine ⟨⟨cs, hl, ho⟩ :: rs, by simp [g1], fun i y hi => ?_, fun j u hj => ?_⟩
    · cases i with
      | zero =>
        obtain rfl : x = y := by simpa using hi
        exact ⟨_, rfl, h1⟩
      | succ i =>
        obtain ⟨c', e, h4⟩ := g2 i y (by simpa using hi)
        exact ⟨c', by simpa using e, h4⟩
    · rw [List.flatMap_cons] at hj
      by_cases hj2 : j < 11
      · rw [List.getElem?_append_left (by rw [hl]; exact hj2)] at hj
        exact h2 _ rfl j u (by simpa using hj)
      · rw [List.getElem?_append_right (by rw [hl]; omega), hl] at hj
        have := g3 (j - 11) u hj
        rw [show off + 11 + (j - 11) = off + j by omega] at this
        exact this
/-- append of data that stand anywhere -/
theorem wp_appL (w : World) {ops : Array Oper} {rest : List Oper} {o : Oper} {a : Act} {Q : Exit → Act → World → Prop}
    (hg : o.guard = none) (s x : Operand) (hop : o.op = Op.call { callee := Callee.builtin Builtin.append, args := #[s, x], argTypes := #[28, 28] })
    (base : Nat) (P : Nat → Prop) (A : Option Addr) (c : Nat) (l : List Dat) (hs : a.eval s = .slice A l.length c) (hown : ROw w base P A c l)
    (D : Option Addr) (d : Nat) (r : List Dat) (hx : a.eval x = .slice D r.length d) (hr : RLs w P D d r)
    (hP : ∀ b, P b → b < base) (hlen : l.length + r.length ≤ 700000000000) (hbase : base ≤ w.heap.size)
    (hK : ∀ A' c' w', ROw w' base P A' c' (l ++ r) → Below base w w' → wpList Tryz.prog ops Q rest (a.put o.dst (.slice A' (l ++ r).length c')) w') :
    wpList Tryz.prog ops Q (o :: rest) a w := by
  obtain ⟨ls, h1, h2, h3⟩ := hown
  obtain ⟨rs, g2, g3, g4⟩ : ∃ rs : List C11, rs.length = r.length ∧ (∀ (i : Nat) (x : Dat), r[i]? = some x → ∃ cs : C11, rs[i]? = some cs ∧ RDP w P x (.agg cs.1.toArray)) ∧ (0 < rs.length → ∃ b off, D = some ⟨b, off, none⟩ ∧ ∀ (j : Nat) (u : Value), (rs.flatMap Subtype.val)[j]? = some u → w.cell? ⟨b, off + j, none⟩ = some u) := by
    by_cases h0 : 0 < r.length
    · obtain ⟨b, off, e, _, h4⟩ := hr.2.2 h0
      obtain ⟨rs, k1, k2, k3⟩ := RDPs.cells r off h4
      exact ⟨rs, k1, k2, fun _ => ⟨b, off, e, k3⟩⟩
    · obtain rfl := List.eq_nil_of_length_eq_zero (Nat.eq_zero_of_not_pos h0)
      exact ⟨[], rfl, fun i x h => by simp at h, fun h => by simp at h⟩
  refine wp_appK w 28 30 11 (fun x : C11 => x.1) (.agg #[.int .i64 0, .int .i64 0, .bool false, .slice none 0 0, .slice none 0 0, .bool false, .slice none 0 0, .slice none 0 0, .string { data := #[] }, .slice none 0 0, .slice none 0 0]) 192 Tryz.underlying28 infoDf rfl (by decide) (fun x => x.2.1) (fun x u hu => x.2.2 u hu) hg s x hop base A c l.length ls hs h2.symm h1 D d r.length rs hx g2.symm
    g4 (by omega) (by omega) hbase (fun A' c' w' k1 k2 => ?_)
  have B : Below base w w' := (Below.refl _ _).grown k2 hbase (by
    intro k hk
    rcases h1.form with ⟨rfl, _⟩ | ⟨g, rfl, hb, _⟩
    · simp [Value.ownBlock] at hk
    · simp [Value.ownBlock] at hk; omega)
  have := hK A' c' w' ⟨ls ++ rs, k1, by simp [h2, g2], fun i y hy => ?_⟩ B
  · rw [List.length_append] at this; rw [h2, g2]; exact this
  · by_cases hi : i < l.length
    · rw [List.getElem?_append_left hi] at hy
      obtain ⟨cs, e, h4⟩ := h3 i y hy
      exact ⟨cs, by rw [List.getElem?_append_left (by omega)]; exact e, h4.keep hP B⟩
    · rw [List.getElem?_append_right (by omega)] at hy
      obtain ⟨cs, e, h4⟩ := g3 _ y hy
      exact ⟨cs, by rw [List.getElem?_append_right (by omega), h2]; exact e, h4.keep hP B⟩
theorem RLs.drop {w : World} {P : Nat → Prop} {b off c : Nat} {l : List Dat} (h : RLs w P (some ⟨b, off, none⟩) c l) (k : Nat) : RLs w P (some ⟨b, off + k * 11, none⟩) (c - k) (l.drop k) :=
  ⟨by have := h.1; rw [List.length_drop]; omega, by have := h.2.1; rw [List.length_drop]; omega, fun h0 => by
    have h0' : k < l.length := by rw [List.length_drop] at h0; omega
    obtain ⟨b', off', e, hb, -⟩ := h.at_ h0'
    obtain ⟨rfl, rfl⟩ : b = b' ∧ off = off' := by simp only [Option.some.injEq, Addr.mk.injEq, and_true] at e; exact e
    refine ⟨b, off + k * 11, rfl, hb, RDPs.of _ _ fun i x hx => ?_⟩
    have hi : i < (l.drop k).length := (List.getElem?_eq_some_iff.1 hx).1
    rw [List.length_drop] at hi
    obtain ⟨b2, off2, e2, _, cs, cl, _, Rx, rx⟩ := h.at_ (i := k + i) (by omega)
    obtain ⟨rfl, rfl⟩ : b = b2 ∧ off = off2 := by simp only [Option.some.injEq, Addr.mk.injEq, and_true] at e2; exact e2
    have hx2 : l[k + i] = x := by
      rw [List.getElem?_drop, List.getElem?_eq_getElem (by omega)] at hx
      exact Option.some.inj hx
    exact ⟨cs, cl, hx2 ▸ Rx, by rw [show off + k * 11 + i * 11 = off + (k + i) * 11 by omega]; exact rx⟩⟩
theorem RLs.out_ {w w' : World} {P : Nat → Prop} {n : Nat} {A : Option Addr} {c : Nat} {l : List Dat} (h : RLs w P A c l) : RLs w (Out P n w') A c l := h.step (fun _ _ => rfl) (fun _ hb => .inl hb)

theorem RLs.take' {w : World} {P : Nat → Prop} {A : Option Addr} {c : Nat} {l : List Dat} (h : RLs w P A c l) (k : Nat) : RLs w P A c (l.take k) :=
  ⟨Nat.le_trans (by rw [List.length_take]; omega) h.1, Nat.le_trans (by rw [List.length_take]; omega) h.2.1, fun h0 => by
    have h1 : 0 < l.length := by rw [List.length_take] at h0; omega
    obtain ⟨b, off, hA, hb, -⟩ := h.at_ h1
    refine ⟨b, off, hA, hb, RDPs.of _ _ fun i x hx => ?_⟩
    have hi : i < l.length := by have := (List.getElem?_eq_some_iff.1 hx).1; rw [List.length_take] at this; omega
    obtain ⟨b2, off2, hA2, _, cs, cl, _, Rx, rx⟩ := h.at_ hi
    rw [hA] at hA2
    have e := Option.some.inj hA2
    obtain rfl : b = b2 := congrArg Addr.block e
    obtain rfl : off = off2 := congrArg Addr.off e
    have hx2 : l[i] = x := by
      have h2 := (List.getElem?_eq_some_iff.1 hx).2
      rwa [List.getElem_take] at h2
    exact ⟨cs, cl, hx2 ▸ Rx, rx⟩⟩
set_option maxRecDepth 100000 in
theorem rmerged_small (c : Bool) (A : Option Addr) (cp : Nat) (l : List Dat) (w : World) (h : l.length < 2) :
    Calls Tryz.prog 50 #[.slice A l.length cp, .bool c] w fun e w' => e = .returned (.slice A l.length cp) ∧ w = w' := by
  have hz : (l.length : Int) < 2 := by omega
  generalize l.length = k at *
  clear h
  go_enter Tryz.func50, Tryz.ntmps50
  go_wp2_with fail
  go_ret
  exact ⟨rfl, rfl⟩
set_option maxRecDepth 100000 in
set_option maxHeartbeats 32000000 in
theorem rmerged_any (c : Bool) (N : Nat) : ∀ (l : List Dat) (A : Option Addr) (cp : Nat) (w : World) (P : Nat → Prop), l.length ≤ N → (∀ b, P b → b < w.heap.size) → RLs w P A cp l → (∀ x ∈ l, GR c x) → l.length ≤ 10000 →
    Calls Tryz.prog 50 #[.slice A l.length cp, .bool c] w fun e w' => ∃ A' c', e = .returned (.slice A' l.length c') ∧ RLs w' (Out P w.heap.size w') A' c' (sortL (cmpR c) l) ∧ Below w.heap.size w w' := by
  induction N with
  | zero =>
    intro l A cp w P hNl hP hL hG hb
    refine (rmerged_small c A cp l w (by omega)).mono ?_
    rintro e w' ⟨rfl, rfl⟩
    exact ⟨A, cp, rfl, by rw [sortL_small (tord_R c hG) (by omega)]; exact hL.out_, Below.refl _ _⟩
  | succ N ih =>
  intro l A cp w P hNl hP hL hG hb
  by_cases h2 : l.length < 2
  · refine (rmerged_small c A cp l w (by omega)).mono ?_
    rintro e w' ⟨rfl, rfl⟩
    exact ⟨A, cp, rfl, by rw [sortL_small (tord_R c hG) (by omega)]; exact hL.out_, Below.refl _ _⟩
  obtain ⟨b, off, rfl, hPb, -⟩ := hL.at_ (i := 0) (by omega)
  have hcp := hL.1
  obtain ⟨h, hh⟩ : ∃ h, l.length / 2 = h := ⟨_, rfl⟩
  obtain ⟨m, hm⟩ : ∃ m, l.length - h = m := ⟨_, rfl⟩
  have hhl : 0 < h ∧ h < l.length ∧ 0 < m ∧ h + m = l.length := by omega
  obtain ⟨x, hx⟩ : ∃ x, l.take h = x := ⟨_, rfl⟩
  obtain ⟨y, hy⟩ : ∃ y, l.drop h = y := ⟨_, rfl⟩
  have hxl : x.length = h := by rw [← hx, List.length_take]; omega
  have hyl : y.length = m := by rw [← hy, List.length_drop]; exact hm
  have Lx : RLs w P (some ⟨b, off, none⟩) cp x := hx ▸ hL.take' h
  have Ly : RLs w P (some ⟨b, off + h * 11, none⟩) (cp - h) y := hy ▸ hL.drop h
  have hGx : ∀ z ∈ x, GR c z := fun z hz => hG z (List.mem_of_mem_take (hx ▸ hz))
  have hGy : ∀ z ∈ y, GR c z := fun z hz => hG z (List.mem_of_mem_drop (hy ▸ hz))
  have M0 : MG (cmpR c) l (sortL (cmpR c) x) (sortL (cmpR c) y) 0 0 [] := MG.start (h := h) (by omega) (hx ▸ isSorted_any (tord_R c (hx ▸ hGx))) (hy ▸ isSorted_any (tord_R c (hy ▸ hGy)))
  have hal : (sortL (cmpR c) x).length = h := by rw [sortL_len (tord_R c hGx), hxl]
  have hbl : (sortL (cmpR c) y).length = m := by rw [sortL_len (tord_R c hGy), hyl]
  have hGa : ∀ z ∈ sortL (cmpR c) x, GR c z := fun z hz => hGx z ((sortL_perm (tord_R c hGx)).mem_iff.1 hz)
  have hGb : ∀ z ∈ sortL (cmpR c) y, GR c z := fun z hz => hGy z ((sortL_perm (tord_R c hGy)).mem_iff.1 hz)
  have hq := tord_R c hG
  have cx := ih x (some ⟨b, off, none⟩) cp
  have cy := ih y (some ⟨b, off + h * 11, none⟩) (cp - h)
  rw [hxl] at cx
  rw [hyl] at cy
  replace cx := fun w P h1 h2 => cx w P (by omega) h1 h2 hGx (by omega)
  replace cy := fun w P h1 h2 => cy w P (by omega) h1 h2 hGy (by omega)
  generalize sortL (cmpR c) x = a at *
  generalize sortL (cmpR c) y = bb at *
  have hsl := sortL_len hq
  clear hGx hGy hG hxl hyl hx hy ih hL
  replace hal := Lib.hid hal
  replace hbl := Lib.hid hbl
  replace hsl := Lib.hid hsl
  replace hq := Lib.hid hq
  replace hGa := Lib.hid hGa
  replace hGb := Lib.hid hGb
  replace M0 := Lib.hid M0
  replace cx := Lib.hid cx
  replace cy := Lib.hid cy
  have hlz : ¬ (l.length : Int) < 2 := by omega
  have hdiv : (l.length : Int).tdiv 2 = (h : Int) := by rw [Int.tdiv_eq_ediv_of_nonneg (by omega)]; omega
  have hzd : IntKind.i64.wrap (h : Int) = (h : Int) := IntWalk.i64_in _ (by omega)
  obtain ⟨k, hkl⟩ : ∃ k, l.length = k := ⟨_, rfl⟩
  rw [hkl] at hlz hdiv hhl hb hcp hh hm hNl h2 ⊢
  replace hkl := Lib.hid hkl
  replace hh := Lib.hid hh
  replace hm := Lib.hid hm
  have hc1 : ¬ cp < h := by omega
  have hc2 : ¬ cp = h := by omega
  have hc3 : ¬ cp < k := by omega
  have hc4 : ¬ k < h := by omega
  have hc5 : k - h = m := hm.out
  have BB := Below.refl w.heap.size w
  have hN : w.heap.size ≤ w.heap.size := Nat.le_refl _
  go_enter Tryz.func50, Tryz.ntmps50
  go_upto_region 3 with fail
  generalize hn : w.heap.size = n at *
  have hN : n ≤ w.heap.size := by omega
  have Dw := (Below.refl w.heap.size w).drew
  have Lx := Lx.keeps hP (by omega) Dw
  have Ly := Ly.keeps hP (by omega) Dw
  have BB := BB.trans (Dw.mono (by omega))
  have hN := Nat.le_trans hN Dw.size
  clear Dw
  refine AnyW.regionQ (fun _ => false) 16 (fun w' => True) rfl (by kernel_rfl) (by kernel_rfl) (by (repeat (with_reducible (first | refine quiet_then ?_ | refine quiet_block ?_))); exact quiet_body) trivial (fun Q' hQK hq hns hHeld => ?_)
  generalize w.drew = w9 at *
  refine AnyW.nextT (i := 0) (v := ?_) hq hns (.inr hHeld) rfl rfl (by kernel_rfl) (Or.inl ⟨by rfl, ?_⟩) ?_
  rotate_left
  · intro w' _; go_simp <;> with_reducible rfl
  try simp only [List.setIfInBounds_toArray, List.set_cons_zero, List.set_cons_succ]
  refine AnyW.nextT (i := 1) (v := ?_) hq hns (.inr hHeld) rfl rfl (by kernel_rfl) (Or.inl ⟨by rfl, ?_⟩) ?_
  rotate_left
  · intro w' _; go_simp <;> with_reducible rfl
  try simp only [List.setIfInBounds_toArray, List.set_cons_zero, List.set_cons_succ]
  refine AnyW.nextT (i := 2) (v := ?_) hq hns (.inr hHeld) rfl rfl (by kernel_rfl) (Or.inl ⟨by rfl, ?_⟩) ?_
  rotate_left
  · intro w' _; go_simp <;> with_reducible rfl
  try simp only [List.setIfInBounds_toArray, List.set_cons_zero, List.set_cons_succ]
  refine AnyW.nextT (i := 3) (v := .int .i64 (h : Int)) hq hns (.inr hHeld) rfl rfl (by kernel_rfl) (Or.inl ⟨by rfl, ?_⟩) ?_
  · intro w' _
    go_simp
  try simp only [List.setIfInBounds_toArray, List.set_cons_zero, List.set_cons_succ]
  refine AnyW.nextT (i := 4) (v := .slice (some ⟨b, off, none⟩) h cp) hq hns (.inr hHeld) rfl rfl (by kernel_rfl) (Or.inl ⟨by rfl, ?_⟩) ?_
  · intro w' _
    go_simp
    try (intro hx; exfalso; omega)
  try simp only [List.setIfInBounds_toArray, List.set_cons_zero, List.set_cons_succ]
  refine AnyW.nextT (i := 5) (v := ?_) hq hns (.inr hHeld) rfl rfl (by kernel_rfl) (Or.inl ⟨by rfl, ?_⟩) ?_
  rotate_left
  · intro w' _; go_simp <;> with_reducible rfl
  try simp only [List.setIfInBounds_toArray, List.set_cons_zero, List.set_cons_succ]
  refine AnyW.nextT (i := 7) (v := ?_) hq hns (.inr hHeld) rfl rfl (by kernel_rfl) (Or.inl ⟨by rfl, ?_⟩) ?_
  rotate_left
  · intro w' _; go_simp <;> with_reducible rfl
  try simp only [List.setIfInBounds_toArray, List.set_cons_zero, List.set_cons_succ]
  refine AnyW.nextT (i := 8) (v := ?_) hq hns (.inr hHeld) rfl rfl (by kernel_rfl) (Or.inl ⟨by rfl, ?_⟩) ?_
  rotate_left
  · intro w' _; go_simp <;> with_reducible rfl
  try simp only [List.setIfInBounds_toArray, List.set_cons_zero, List.set_cons_succ]
  refine AnyW.nextT (i := 9) (v := ?_) hq hns (.inr hHeld) rfl rfl (by kernel_rfl) (Or.inl ⟨by rfl, ?_⟩) ?_
  rotate_left
  · intro w' _; go_simp <;> with_reducible rfl
  try simp only [List.setIfInBounds_toArray, List.set_cons_zero, List.set_cons_succ]
  refine AnyW.nextT (i := 10) (v := .int .i64 (h : Int)) hq hns (.inr hHeld) rfl rfl (by kernel_rfl) (Or.inl ⟨by rfl, ?_⟩) ?_
  · intro w' _
    go_simp
  try simp only [List.setIfInBounds_toArray, List.set_cons_zero, List.set_cons_succ]
  refine AnyW.nextT (i := 11) (v := .slice (some ⟨b, off + h * 11, none⟩) m (cp - h)) hq hns (.inr hHeld) rfl rfl (by kernel_rfl) (Or.inl ⟨by rfl, ?_⟩) ?_
  · intro w' _
    go_simp
    try (intro hx; exfalso; omega)
  try simp only [List.setIfInBounds_toArray, List.set_cons_zero, List.set_cons_succ]
  refine AnyW.nextT (i := 12) (v := ?_) hq hns (.inr hHeld) rfl rfl (by kernel_rfl) (Or.inl ⟨by rfl, ?_⟩) ?_
  rotate_left
  · intro w' _; go_simp <;> with_reducible rfl
  try simp only [List.setIfInBounds_toArray, List.set_cons_zero, List.set_cons_succ]
  refine AnyW.one 6 (by kernel_rfl) rfl (fun K' hK => ?_)
  go_simp
  refine (cx.out w9 P (fun z hz => by have := hP z hz; omega) Lx).mono ?_
  rintro e w1 ⟨A1, c1, rfl, L1, B1⟩
  have L1 := L1.from_ (m := n) hN
  go_wp2_with fail
  have Lx := Lx.keeps hP (by omega) B1
  have Ly := Ly.keeps hP (by omega) B1
  have BB := BB.trans (B1.mono (by omega))
  have hN := Nat.le_trans hN B1.size
  refine hK.out _ _ (.inr trivial) (fun hG => ?_)
  have hHeld := hG.resolve_left (notGone.spec (by rfl))
  clear hK K' hG
  try simp only [List.setIfInBounds_toArray, List.set_cons_zero, List.set_cons_succ]
  refine AnyW.one 13 (by kernel_rfl) rfl (fun K' hK => ?_)
  go_simp
  refine (cy.out w1 P (fun z hz => by have := hP z hz; omega) Ly).mono ?_
  rintro e w2 ⟨A2, c2, rfl, L2, B2⟩
  have L2 := L2.from_ (m := n) hN
  go_wp2_with fail
  have Lx := Lx.keeps hP (by omega) B2
  have Ly := Ly.keeps hP (by omega) B2
  have BB := BB.trans (B2.mono (by omega))
  have L1 := L1.go hP (by omega) B2
  have hN := Nat.le_trans hN B2.size
  refine hK.out _ _ (.inr trivial) (fun hG => ?_)
  have hHeld := hG.resolve_left (notGone.spec (by rfl))
  clear hK K' hG
  try simp only [List.setIfInBounds_toArray, List.set_cons_zero, List.set_cons_succ]
  refine AnyW.nextT (i := 14) (v := ?_) hq hns (.inr hHeld) rfl rfl (by kernel_rfl) (Or.inl ⟨by rfl, ?_⟩) ?_
  rotate_left
  · intro w' _; go_simp <;> with_reducible rfl
  try simp only [List.setIfInBounds_toArray, List.set_cons_zero, List.set_cons_succ]
  refine AnyW.nextT (i := 15) (v := ?_) hq hns (.inr hHeld) rfl rfl (by kernel_rfl) (Or.inl ⟨by rfl, ?_⟩) ?_
  rotate_left
  · intro w' _; go_simp <;> with_reducible rfl
  try simp only [List.setIfInBounds_toArray, List.set_cons_zero, List.set_cons_succ]
  refine AnyW.done (by kernel_rfl) (hQK.out _ _ ?_)
  clear hQK hq hns hHeld
  clear Lx Ly cx cy hdiv hzd hlz hPb hc1 hc2 hc3 hc4 hc5
  obtain ⟨P2, hP2, hPo, L1, L2⟩ : ∃ P2 : Nat → Prop, (∀ b, P2 b → b < w2.heap.size) ∧ (∀ b, P2 b → P b ∨ (n ≤ b ∧ b < w2.heap.size)) ∧ RLs w2 P2 A1 c1 a ∧ RLs w2 P2 A2 c2 bb :=
    ⟨Out P n w2, Out.all hP (by omega), fun b h => h, L1, L2⟩
  clear hP
  have hP := hP2
  have O0 := ROw.empty w2 P2
  have Ba := bal w2 (.cells #[] 30)
  have L1 := L1.keeps hP (by omega) Ba
  have L2 := L2.keeps hP (by omega) Ba
  have BB := BB.trans (Ba.mono (by omega))
  go_upto_region 7 with fail
  obtain ⟨W1, hW1⟩ : ∃ W1, W1 = w2.alloc (.cells #[] 30) := ⟨_, rfl⟩
  obtain ⟨q, hq0⟩ : ∃ q, w2.heap.size = q := ⟨_, rfl⟩
  have hN2 : q ≤ W1.heap.size := by rw [hW1, ← hq0]; simp
  have hnq : n ≤ q := by omega
  rw [← hW1] at L1 L2 BB O0 ⊢
  rw [hq0] at O0 hP hPo hP2 ⊢
  clear hW1 Ba hq0 hN hP2
  have hN := hN2
  clear hN2
  have hMl := fun (i k : Nat) (o : List Dat) (h : MG (cmpR c) l a bb i k o) => MG.len h
  replace hMl := Lib.hid hMl
  go_loopg [7, 8, 9] m (fun gk s7 s8 s9 wx => ∃ (i j : Nat) (A7 : Option Addr) (c7 : Nat) (o : List Dat), s7 = .slice A7 o.length c7 ∧ s8 = .int .i64 (i : Int) ∧ s9 = .int .i64 (j : Int) ∧ j + gk = m ∧ i ≤ h ∧ Hid (MG (cmpR c) l a bb i j o) ∧ ROw wx q P2 A7 c7 o ∧ RLs wx P2 A1 c1 a ∧ RLs wx P2 A2 c2 bb ∧ Below n w wx ∧ q ≤ wx.heap.size)
  case atStart => exact ⟨0, 0, _, _, [], rfl, rfl, rfl, by omega, by omega, M0, O0, L1, L2, BB, hN⟩
  case round =>
    clear M0 O0 L1 L2 BB hN
    obtain ⟨i, j, A7, c7, o, rfl, rfl, rfl, hgk, hih, M1, O1, L1, L2, BB, hN⟩ := hrel
    by_cases hj : j < m
    · have hjz : (j : Int) < (m : Int) := by omega
      have hjb : j < bb.length := by rw [hbl.out]; exact hj
      obtain ⟨wo, hwo⟩ : ∃ wo, wo = wr := ⟨_, rfl⟩
      subst hwo
      have M2 := M1
      go_upto_region 9 with fail
      go_loopg [7, 8] (h - i) (fun gk2 s7 s8 wx => ∃ (i : Nat) (A7 : Option Addr) (c7 : Nat) (o : List Dat), s7 = .slice A7 o.length c7 ∧ s8 = .int .i64 (i : Int) ∧ i + gk2 = h ∧ Hid (MG (cmpR c) l a bb i j o) ∧ ROw wx q P2 A7 c7 o ∧ RLs wx P2 A1 c1 a ∧ RLs wx P2 A2 c2 bb ∧ Below n w wx ∧ q ≤ wx.heap.size)
      case atStart => exact ⟨i, _, _, o, rfl, rfl, by omega, M2, O1, L1, L2, BB, hN⟩
      case round =>
        clear M1 M2 O1 L1 L2 BB hN hih
        clear o
        clear A7 c7 i
        obtain ⟨i, A7, c7, o, rfl, rfl, hgk2, M1, O1, L1, L2, BB, hN⟩ := hrel
        obtain ⟨b2, off2, rfl, hPb2, ck, lk, ok, Rk, rk⟩ := L2.at_ hjb
        match ck, lk, ok with
        | [z0, z1, z2, z3, z4, z5, z6, z7, z8, z9, z10], _, ok =>
        have hb2 := Nat.lt_of_lt_of_le (hP b2 hPb2) hN
        by_cases hi : i < h
        · have hiz : (i : Int) < (h : Int) := by omega
          have hia : i < a.length := by rw [hal.out]; exact hi
          obtain ⟨b1, off1, rfl, hPb1, ci, li, oi, Ri, ri⟩ := L1.at_ hia
          match ci, li, oi with
          | [x0, x1, x2, x3, x4, x5, x6, x7, x8, x9, x10], _, oi =>
          have hb1 := Nat.lt_of_lt_of_le (hP b1 hPb1) hN
          have gi := hGa.out _ (List.getElem_mem hia)
          have gj := hGb.out _ (List.getElem_mem hjb)
          have stA := fun h => MG.stepA hq.out M1.out hia hjb h
          have stB := fun h => MG.stepB hq.out M1.out hjb (.inr ⟨hia, h⟩)
          have hlen := hMl.out _ _ _ M1.out
          rw [hal.out, hbl.out, hkl.out] at hlen
          obtain ⟨di, hdi⟩ : ∃ d, a[i] = d := ⟨_, rfl⟩
          obtain ⟨dj, hdj⟩ : ∃ d, bb[j] = d := ⟨_, rfl⟩
          rw [hdi, hdj] at stA stB
          rw [hdi] at Ri gi
          rw [hdj] at Rk gj
          clear hdi hdj hPb1
          replace stA := Lib.hid stA
          replace stB := Lib.hid stB
          go_upto_region 9 with fail
          have Dw := (Below.refl wr.heap.size wr).drew
          have O1 := O1.below (fun b hb => Nat.lt_of_lt_of_le (hP b hb) (by omega)) Dw
          have L1 := L1.keeps hP (by omega) Dw
          have L2 := L2.keeps hP (by omega) Dw
          have Rk := Rk.keeps hP (by omega) Dw
          have rk := range_nx rk Dw (by omega)
          have hb2 := Nat.lt_of_lt_of_le hb2 Dw.size
          have Ri := Ri.keeps hP (by omega) Dw
          have ri := range_nx ri Dw (by omega)
          have hb1 := Nat.lt_of_lt_of_le hb1 Dw.size
          have BB := BB.trans (Dw.mono (by omega))
          have hN := Nat.le_trans hN Dw.size
          clear Dw
          refine AnyW.regionQ (fun _ => false) 17 (fun w' => w'.rangeAt b2 (off2 + j * 11) [z0, z1, z2, z3, z4, z5, z6, z7, z8, z9, z10] ∧ w'.rangeAt b1 (off1 + i * 11) [x0, x1, x2, x3, x4, x5, x6, x7, x8, x9, x10]) rfl (by kernel_rfl) (by kernel_rfl) (by (repeat (with_reducible (first | refine quiet_then ?_ | refine quiet_block ?_))); exact quiet_body) ⟨(rk), (ri)⟩ (fun Q' hQK hq hns hHeld => ?_)
          generalize wr.drew = w9 at *
          refine AnyW.nextT (i := 0) (v := ?_) hq hns (.inr hHeld) rfl rfl (by kernel_rfl) (Or.inl ⟨by rfl, ?_⟩) ?_
          rotate_left
          · intro w' _; go_simp <;> with_reducible rfl
          try simp only [List.setIfInBounds_toArray, List.set_cons_zero, List.set_cons_succ]
          refine AnyW.nextT (i := 1) (v := ?_) hq hns (.inr hHeld) rfl rfl (by kernel_rfl) (Or.inl ⟨by rfl, ?_⟩) ?_
          rotate_left
          · intro w' _; go_simp <;> with_reducible rfl
          try simp only [List.setIfInBounds_toArray, List.set_cons_zero, List.set_cons_succ]
          refine AnyW.nextT (i := 2) (v := ?_) hq hns (.inr hHeld) rfl rfl (by kernel_rfl) (Or.inl ⟨by rfl, ?_⟩) ?_
          rotate_left
          · intro w' _; go_simp <;> with_reducible rfl
          try simp only [List.setIfInBounds_toArray, List.set_cons_zero, List.set_cons_succ]
          refine AnyW.nextT (i := 3) (v := ?_) hq hns (.inr hHeld) rfl rfl (by kernel_rfl) (Or.inl ⟨by rfl, ?_⟩) ?_
          rotate_left
          · intro w' _; go_simp <;> with_reducible rfl
          try simp only [List.setIfInBounds_toArray, List.set_cons_zero, List.set_cons_succ]
          refine AnyW.nextT (i := 4) (v := ?_) hq hns (.inr hHeld) rfl rfl (by kernel_rfl) (Or.inl ⟨by rfl, ?_⟩) ?_
          rotate_left
          · intro w' _; go_simp <;> with_reducible rfl
          try simp only [List.setIfInBounds_toArray, List.set_cons_zero, List.set_cons_succ]
          refine AnyW.nextT (i := 5) (v := ?_) hq hns (.inr hHeld) rfl rfl (by kernel_rfl) (Or.inl ⟨by rfl, ?_⟩) ?_
          rotate_left
          · intro w' _; go_simp <;> with_reducible rfl
          try simp only [List.setIfInBounds_toArray, List.set_cons_zero, List.set_cons_succ]
          refine AnyW.nextT (i := 6) (v := ?_) hq hns (.inr hHeld) rfl rfl (by kernel_rfl) (Or.inl ⟨by rfl, ?_⟩) ?_
          rotate_left
          · intro w' _; go_simp <;> with_reducible rfl
          try simp only [List.setIfInBounds_toArray, List.set_cons_zero, List.set_cons_succ]
          refine AnyW.nextT (i := 7) (v := ?_) hq hns (.inr hHeld) rfl rfl (by kernel_rfl) (Or.inl ⟨by rfl, ?_⟩) ?_
          rotate_left
          · intro w' _; go_simp <;> with_reducible rfl
          try simp only [List.setIfInBounds_toArray, List.set_cons_zero, List.set_cons_succ]
          refine AnyW.next (i := 8) (v := .agg [z0, z1, z2, z3, z4, z5, z6, z7, z8, z9, z10].toArray) hq hns hHeld rfl rfl (by kernel_rfl) (yieldsIf_load_mid (by rfl) 30 (.tmp 42) rfl b2 (off2 + j * 11) rfl [z0, z1, z2, z3, z4, z5, z6, z7, z8, z9, z10] _ (fun w' h => h.1) Tryz.underlying30 rfl (infoD.trans (by rfl))) ?_
          try simp only [List.setIfInBounds_toArray, List.set_cons_zero, List.set_cons_succ]
          refine AnyW.nextT (i := 9) (v := ?_) hq hns (.inr hHeld) rfl rfl (by kernel_rfl) (Or.inl ⟨by rfl, ?_⟩) ?_
          rotate_left
          · intro w' _; go_simp <;> with_reducible rfl
          try simp only [List.setIfInBounds_toArray, List.set_cons_zero, List.set_cons_succ]
          refine AnyW.nextT (i := 10) (v := ?_) hq hns (.inr hHeld) rfl rfl (by kernel_rfl) (Or.inl ⟨by rfl, ?_⟩) ?_
          rotate_left
          · intro w' _; go_simp <;> with_reducible rfl
          try simp only [List.setIfInBounds_toArray, List.set_cons_zero, List.set_cons_succ]
          refine AnyW.nextT (i := 11) (v := ?_) hq hns (.inr hHeld) rfl rfl (by kernel_rfl) (Or.inl ⟨by rfl, ?_⟩) ?_
          rotate_left
          · intro w' _; go_simp <;> with_reducible rfl
          try simp only [List.setIfInBounds_toArray, List.set_cons_zero, List.set_cons_succ]
          refine AnyW.next (i := 12) (v := .agg [x0, x1, x2, x3, x4, x5, x6, x7, x8, x9, x10].toArray) hq hns hHeld rfl rfl (by kernel_rfl) (yieldsIf_load_mid (by rfl) 30 (.tmp 46) rfl b1 (off1 + i * 11) rfl [x0, x1, x2, x3, x4, x5, x6, x7, x8, x9, x10] _ (fun w' h => h.2) Tryz.underlying30 rfl (infoD.trans (by rfl))) ?_
          try simp only [List.setIfInBounds_toArray, List.set_cons_zero, List.set_cons_succ]
          refine AnyW.nextT (i := 13) (v := ?_) hq hns (.inr hHeld) rfl rfl (by kernel_rfl) (Or.inl ⟨by rfl, ?_⟩) ?_
          rotate_left
          · intro w' _; go_simp <;> with_reducible rfl
          try simp only [List.setIfInBounds_toArray, List.set_cons_zero, List.set_cons_succ]
          refine AnyW.one 14 (by kernel_rfl) rfl (fun K' hK => ?_)
          go_simp
          refine (rlessD_any c dj di _ _ w9 P2 (fun z hz => by have := hP z hz; omega) gj gi Rk Ri).mono ?_
          rintro e w5 ⟨rfl, B5⟩
          go_wp2_with fail
          have O1 := O1.below (fun b hb => Nat.lt_of_lt_of_le (hP b hb) (by omega)) B5
          have L1 := L1.keeps hP (by omega) B5
          have L2 := L2.keeps hP (by omega) B5
          have Rk := Rk.keeps hP (by omega) B5
          have rk := range_nx rk B5 (by omega)
          have hb2 := Nat.lt_of_lt_of_le hb2 B5.size
          have Ri := Ri.keeps hP (by omega) B5
          have ri := range_nx ri B5 (by omega)
          have hb1 := Nat.lt_of_lt_of_le hb1 B5.size
          have BB := BB.trans (B5.mono (by omega))
          have hN := Nat.le_trans hN B5.size
          refine hK.out _ _ (.inr ⟨(rk), (ri)⟩) (fun hG => ?_)
          have hHeld := hG.resolve_left (notGone.spec (by rfl))
          clear hK K' hG
          try simp only [List.setIfInBounds_toArray, List.set_cons_zero, List.set_cons_succ]
          obtain ⟨z, hz⟩ : ∃ z, Hid (decide (cmpR c dj di < 0) = z) := ⟨_, Lib.hid rfl⟩
          rw [hz.out]
          refine AnyW.nextT (i := 15) (v := ?_) hq hns (.inr hHeld) rfl rfl (by kernel_rfl) (Or.inl ⟨by rfl, ?_⟩) ?_
          rotate_left
          · intro w' _; go_simp <;> with_reducible rfl
          try simp only [List.setIfInBounds_toArray, List.set_cons_zero, List.set_cons_succ]
          refine AnyW.nextT (i := 16) (v := ?_) hq hns (.inr hHeld) rfl rfl (by kernel_rfl) (Or.inl ⟨by rfl, ?_⟩) ?_
          rotate_left
          · intro w' _; go_simp <;> with_reducible rfl
          try simp only [List.setIfInBounds_toArray, List.set_cons_zero, List.set_cons_succ]
          refine AnyW.done (by kernel_rfl) (hQK.out _ _ ?_)
          clear hQK hq hns hHeld
          cases z with
          | true =>
            have MB := stB.out (by simpa using hz.out)
            replace MB := Lib.hid MB
            clear stA stB hz ri Ri gi gj M1
            go_upto_region 12 with fail
            have k0 := rk 0 _ rfl; have k1 := rk 1 _ rfl; have k2 := rk 2 _ rfl; have k3 := rk 3 _ rfl; have k4 := rk 4 _ rfl; have k5 := rk 5 _ rfl; have k6 := rk 6 _ rfl; have k7 := rk 7 _ rfl; have k8 := rk 8 _ rfl; have k9 := rk 9 _ rfl; have k10 := rk 10 _ rfl
            simp only [Nat.add_zero] at k0
            obtain ⟨ls1, O, hl2, h3⟩ := O1
            have S5 := SB.new w5 [z0, z1, z2, z3, z4, z5, z6, z7, z8, z9, z10] 30
            have Ba := bal w5 (.cells #[z0, z1, z2, z3, z4, z5, z6, z7, z8, z9, z10] 30)
            have hz1 : (w5.alloc (.cells #[z0, z1, z2, z3, z4, z5, z6, z7, z8, z9, z10] 30)).heap.size = w5.heap.size + 1 := by simp
            go_upto_region 8 with (at_builtin; refine wp_appD _ rfl _ _ rfl q _ _ _ ls1 rfl hl2.symm (O.alloc _) w5.heap.size _ ⟨[z0, z1, z2, z3, z4, z5, z6, z7, z8, z9, z10], rfl, ok⟩ rfl (fun j u hj => (S5.1 j u hj).1) (by omega) (by omega) ?_; intro A3 c3 w7 O2 G2)
            clear k0 k1 k2 k3 k4 k5 k6 k7 k8 k9 k10
            have Bw : Below q w5 w7 := (Ba.mono hN).trans G2
            have djR : RDP w7 P2 dj _ := Rk.keep hP Bw
            have L1 : RLs w7 P2 _ _ a := L1.step (fun z hz => Bw.block z (hP z hz)) (fun _ h => h)
            have L2 : RLs w7 P2 _ _ bb := L2.step (fun z hz => Bw.block z (hP z hz)) (fun _ h => h)
            have BB : Below n w w7 := BB.trans (Bw.mono (by omega))
            have h3 : ∀ (i : Nat) (y : Dat), o[i]? = some y → ∃ cs : C11, ls1[i]? = some cs ∧ RDP w7 P2 y (.agg cs.1.toArray) := fun i y hy => by
              obtain ⟨cs, e, h4⟩ := h3 i y hy
              exact ⟨cs, e, h4.keep hP Bw⟩
            have OO : ROw w7 q P2 A3 c3 (o ++ [dj]) := ROw.push O2 hl2 h3 djR
            have hN : q ≤ w7.heap.size := by have := Bw.size; omega
            clear O O2 S5 Ba Bw G2 djR h3 hl2 hz1
            go_wp2_with fail
            go_roundg (m - (j + 1))
            case measure => omega
            case rel => exact ⟨i, j + 1, A3, c3, o ++ [dj], by rw [List.length_append]; rfl, rfl, by simp, by omega, by omega, MB, OO, L1, L2, BB, hN⟩
          | false =>
            have MA := stA.out (by simpa using hz.out)
            replace MA := Lib.hid MA
            clear stA stB hz rk Rk gi gj M1
            have k0 := ri 0 _ rfl; have k1 := ri 1 _ rfl; have k2 := ri 2 _ rfl; have k3 := ri 3 _ rfl; have k4 := ri 4 _ rfl; have k5 := ri 5 _ rfl; have k6 := ri 6 _ rfl; have k7 := ri 7 _ rfl; have k8 := ri 8 _ rfl; have k9 := ri 9 _ rfl; have k10 := ri 10 _ rfl
            simp only [Nat.add_zero] at k0
            obtain ⟨ls1, O, hl2, h3⟩ := O1
            have S5 := SB.new w5 [x0, x1, x2, x3, x4, x5, x6, x7, x8, x9, x10] 30
            have Ba := bal w5 (.cells #[x0, x1, x2, x3, x4, x5, x6, x7, x8, x9, x10] 30)
            have hz1 : (w5.alloc (.cells #[x0, x1, x2, x3, x4, x5, x6, x7, x8, x9, x10] 30)).heap.size = w5.heap.size + 1 := by simp
            go_upto_region 11 with (at_builtin; refine wp_appD _ rfl _ _ rfl q _ _ _ ls1 rfl hl2.symm (O.alloc _) w5.heap.size _ ⟨[x0, x1, x2, x3, x4, x5, x6, x7, x8, x9, x10], rfl, oi⟩ rfl (fun j u hj => (S5.1 j u hj).1) (by omega) (by omega) ?_; intro A3 c3 w7 O2 G2)
            clear k0 k1 k2 k3 k4 k5 k6 k7 k8 k9 k10
            have Bw : Below q w5 w7 := (Ba.mono hN).trans G2
            have diR : RDP w7 P2 di _ := Ri.keep hP Bw
            have L1 : RLs w7 P2 _ _ a := L1.step (fun z hz => Bw.block z (hP z hz)) (fun _ h => h)
            have L2 : RLs w7 P2 _ _ bb := L2.step (fun z hz => Bw.block z (hP z hz)) (fun _ h => h)
            have BB : Below n w w7 := BB.trans (Bw.mono (by omega))
            have h3 : ∀ (i : Nat) (y : Dat), o[i]? = some y → ∃ cs : C11, ls1[i]? = some cs ∧ RDP w7 P2 y (.agg cs.1.toArray) := fun i y hy => by
              obtain ⟨cs, e, h4⟩ := h3 i y hy
              exact ⟨cs, e, h4.keep hP Bw⟩
            have OO : ROw w7 q P2 A3 c3 (o ++ [di]) := ROw.push O2 hl2 h3 diR
            have hN : q ≤ w7.heap.size := by have := Bw.size; omega
            clear O O2 S5 Ba Bw G2 diR h3 hl2 hz1
            go_wp2_with fail
            go_roundg (h - (i + 1))
            case measure => omega
            case rel => exact ⟨i + 1, A3, c3, o ++ [di], by rw [List.length_append]; rfl, by simp, by omega, MA, OO, L1, L2, BB, hN⟩
        · have hiz : ¬ (i : Int) < (h : Int) := by omega
          have hlen := hMl.out _ _ _ M1.out
          rw [hal.out, hbl.out, hkl.out] at hlen
          have MB := MG.stepB hq.out M1.out hjb (.inl (by rw [hal.out]; omega))
          obtain ⟨dj, hdj⟩ : ∃ d, bb[j] = d := ⟨_, rfl⟩
          rw [hdj] at MB Rk
          clear hdj M1
          replace MB := Lib.hid MB
          go_upto_region 9 with fail
          go_quiet (fail)
          have Dw : Below wr.heap.size wr (wr.drewN nq) := bdN (Below.refl _ _) nq
          have O1 := O1.below (fun b hb => Nat.lt_of_lt_of_le (hP b hb) (by omega)) Dw
          have L1 := L1.keeps hP (by omega) Dw
          have L2 := L2.keeps hP (by omega) Dw
          have Rk := Rk.keeps hP (by omega) Dw
          have rk := range_nx rk Dw (by omega)
          have hb2 := Nat.lt_of_lt_of_le hb2 Dw.size
          have BB := BB.trans (Dw.mono (by omega))
          have hN := Nat.le_trans hN Dw.size
          generalize wr.drewN nq = w5 at *
          clear Dw
          go_upto_region 12 with fail
          have k0 := rk 0 _ rfl; have k1 := rk 1 _ rfl; have k2 := rk 2 _ rfl; have k3 := rk 3 _ rfl; have k4 := rk 4 _ rfl; have k5 := rk 5 _ rfl; have k6 := rk 6 _ rfl; have k7 := rk 7 _ rfl; have k8 := rk 8 _ rfl; have k9 := rk 9 _ rfl; have k10 := rk 10 _ rfl
          simp only [Nat.add_zero] at k0
          obtain ⟨ls1, O, hl2, h3⟩ := O1
          have S5 := SB.new w5 [z0, z1, z2, z3, z4, z5, z6, z7, z8, z9, z10] 30
          have Ba := bal w5 (.cells #[z0, z1, z2, z3, z4, z5, z6, z7, z8, z9, z10] 30)
          have hz1 : (w5.alloc (.cells #[z0, z1, z2, z3, z4, z5, z6, z7, z8, z9, z10] 30)).heap.size = w5.heap.size + 1 := by simp
          go_upto_region 8 with (at_builtin; refine wp_appD _ rfl _ _ rfl q _ _ _ ls1 rfl hl2.symm (O.alloc _) w5.heap.size _ ⟨[z0, z1, z2, z3, z4, z5, z6, z7, z8, z9, z10], rfl, ok⟩ rfl (fun j u hj => (S5.1 j u hj).1) (by omega) (by omega) ?_; intro A3 c3 w7 O2 G2)
          clear k0 k1 k2 k3 k4 k5 k6 k7 k8 k9 k10
          have Bw : Below q w5 w7 := (Ba.mono hN).trans G2
          have djR : RDP w7 P2 dj _ := Rk.keep hP Bw
          have L1 : RLs w7 P2 _ _ a := L1.step (fun z hz => Bw.block z (hP z hz)) (fun _ h => h)
          have L2 : RLs w7 P2 _ _ bb := L2.step (fun z hz => Bw.block z (hP z hz)) (fun _ h => h)
          have BB : Below n w w7 := BB.trans (Bw.mono (by omega))
          have h3 : ∀ (i : Nat) (y : Dat), o[i]? = some y → ∃ cs : C11, ls1[i]? = some cs ∧ RDP w7 P2 y (.agg cs.1.toArray) := fun i y hy => by
            obtain ⟨cs, e, h4⟩ := h3 i y hy
            exact ⟨cs, e, h4.keep hP Bw⟩
          have OO : ROw w7 q P2 A3 c3 (o ++ [dj]) := ROw.push O2 hl2 h3 djR
          have hN : q ≤ w7.heap.size := by have := Bw.size; omega
          clear O O2 S5 Ba Bw G2 djR h3 hl2 hz1
          go_wp2_with fail
          go_roundg (m - (j + 1))
          case measure => omega
          case rel => exact ⟨i, j + 1, A3, c3, o ++ [dj], by rw [List.length_append]; rfl, rfl, by simp, by omega, by omega, MB, OO, L1, L2, BB, hN⟩
    · have hjz : ¬ (j : Int) < (m : Int) := by omega
      have hlen := hMl.out _ _ _ M1.out
      rw [hal.out, hbl.out, hkl.out] at hlen
      have hend := MG.end_ hq.out M1.out (by rw [hbl.out]; omega)
      obtain ⟨b1, off1, rfl, hPb1, -⟩ := L1.at_ (i := 0) (by rw [hal.out]; omega)
      have hc1 := L1.1
      rw [hal.out] at hc1
      obtain ⟨r, hr⟩ : ∃ r, a.drop i = r := ⟨_, rfl⟩
      have hrl : r.length = h - i := by rw [← hr, List.length_drop, hal.out]
      have Lr : ∀ D d, (0 < r.length → D = some (⟨b1, off1 + i * 11, none⟩ : Addr)) → r.length ≤ d → RLs wr P2 D d r := fun D d h1 h2 => by
        have h3 := L1.drop i
        rw [hr] at h3
        exact ⟨h2, h3.2.1, fun h0 => by obtain ⟨b', off', e, h4⟩ := h3.2.2 h0; exact ⟨b', off', (h1 h0).trans e, h4⟩⟩
      rw [hr] at hend
      have hsl := hsl.out
      rw [hkl.out] at hsl
      have hlen2 : (o ++ r).length = k := by rw [← hend, hsl]
      clear hr M1 hsl
      obtain ⟨D', d', hD, hDl⟩ : ∃ (D' : Option Addr) (d' : Nat), Hid ((c1 = i ∧ D' = some (⟨b1, off1, none⟩ : Addr) ∧ d' = 0) ∨ (¬ c1 = i ∧ D' = some (⟨b1, off1 + i * 11, none⟩ : Addr) ∧ d' = c1 - i)) ∧ RLs wr P2 D' d' r := by
        by_cases hci : c1 = i
        · exact ⟨_, _, .inl ⟨hci, rfl, rfl⟩, Lr _ _ (fun h => by omega) (by omega)⟩
        · exact ⟨_, _, .inr ⟨hci, rfl, rfl⟩, Lr _ _ (fun h => rfl) (by omega)⟩
      clear Lr
      have hol : o.length + r.length ≤ 10000 := by rw [List.length_append] at hlen2; omega
      replace hend := Lib.hid hend
      replace hlen2 := Lib.hid hlen2
      replace hrl := Lib.hid hrl
      have hic : i ≤ c1 := by omega
      have hfin : ∀ w6 A3 c3, ROw w6 q P2 A3 c3 (o ++ r) → Below q wr w6 → (∃ A' c', Ending.returned (.slice A3 (o.length + r.length) c3) = .returned (.slice A' k c') ∧ RLs w6 (Out P n w6) A' c' (sortL (cmpR c) l) ∧ Below n w w6) := fun w6 A3 c3 O3 G3 =>
        ⟨A3, c3, by rw [← List.length_append, hlen2.out], by rw [hend.out]; exact (O3.rls (by rw [hlen2.out]; omega)).step (fun _ _ => rfl) (fun z hz => hz.elim (fun hz => (hPo z hz).imp id fun hz => ⟨hz.1, by have := G3.size; omega⟩) (fun hz => .inr ⟨by omega, hz.2⟩)), BB.trans (G3.mono (by omega))⟩
      replace hfin := Lib.hid hfin
      clear hend hlen2 BB hPo
      rcases hD with ⟨hci, rfl, rfl⟩ | ⟨hci, rfl, rfl⟩

      · subst hci
        have hr0 : r = [] := List.eq_nil_of_length_eq_zero (by rw [hrl.out]; omega)
        subst hr0
        have hhc : h - c1 = 0 := by omega
        go_upto_region 13 with fail
        go_wp2_with (at_builtin; refine wp_appL _ rfl _ _ rfl q P2 A7 c7 o rfl O1 _ _ [] rfl hDl (fun z hz => by have := hP z hz; omega) (by omega) (by omega) ?_; intro A3 c3 w6 O3 G3)
        go_ret
        try rw [hn]
        simpa using hfin.out _ _ _ O3 G3
      · go_upto_region 13 with fail
        go_wp2_with (at_builtin; refine wp_appL _ rfl _ _ rfl q P2 A7 c7 o rfl O1 _ _ r (by rw [hrl.out]; rfl) hDl (fun z hz => by have := hP z hz; omega) (by omega) (by omega) ?_; intro A3 c3 w6 O3 G3)
        go_ret
        try rw [hn]
        exact hfin.out _ _ _ O3 G3

set_option maxRecDepth 100000 in
set_option maxHeartbeats 8000000 in
theorem rsorted_any (b : Bool) (A : Option Addr) (c : Nat) (l : List Dat) (w : World) (P : Nat → Prop) (hP : ∀ b, P b → b < w.heap.size) (hL : RLs w P A c l) (hG : ∀ x ∈ l, GR b x) (hb : l.length ≤ 10000) :
    Calls Tryz.prog 34 #[.slice A l.length c, .bool b] w fun e w' => ∃ v', e = .returned v' ∧ RDP w' (Out P w.heap.size w') (joinD (sortL (cmpR b) l) nilD) v' ∧ Below w.heap.size w w' := by
  have S1 := SB.new w [.int .i64 0, .int .i64 0, .bool false, .slice none 0 0, .slice none 0 0, .bool false, .slice none 0 0, .slice none 0 0, .string { data := #[] }, .slice none 0 0, .slice none 0 0] 30
  have BB := bal w (.cells #[.int .i64 0, .int .i64 0, .bool false, .slice none 0 0, .slice none 0 0, .bool false, .slice none 0 0, .slice none 0 0, .string { data := #[] }, .slice none 0 0, .slice none 0 0] 30)
  have L0 : RLs _ P A c l := hL.step (fun z hz => BB.block z (hP z hz)) (fun z hz => hz)
  obtain ⟨W0, hW0⟩ : ∃ W0, W0 = w.alloc (.cells #[.int .i64 0, .int .i64 0, .bool false, .slice none 0 0, .slice none 0 0, .bool false, .slice none 0 0, .slice none 0 0, .string { data := #[] }, .slice none 0 0, .slice none 0 0] 30) := ⟨_, rfl⟩
  have hN : w.heap.size + 1 ≤ W0.heap.size := by rw [hW0]; simp
  rw [← hW0] at S1 BB L0
  have hsl := sortL_len (tord_R b hG)
  have hcm := rmerged_any b l.length l A c W0 P (Nat.le_refl _) (fun z hz => by have := hP z hz; omega) L0 hG hb
  clear hG
  go_enter Tryz.func34, Tryz.ntmps34
  go_upto_region 1 with fail
  rw [← hW0]
  clear hW0 hL
  generalize hn : w.heap.size = n at *
  go_wp2_with fail
  refine hcm.mono ?_
  rintro e w2 ⟨A1, c1, rfl, L1, B1⟩
  clear hcm L0
  have L1 := L1.from_ (m := n + 1) hN
  have S1 := S1.nx B1
  have BB := BB.trans (B1.mono (by omega))
  have hN := Nat.le_trans hN B1.size
  obtain ⟨r, hr⟩ : ∃ r, sortL (cmpR b) l = r := ⟨_, rfl⟩
  rw [hr] at L1 hsl
  replace hr := Lib.hid hr
  rw [← hsl]
  replace hsl := Lib.hid hsl
  go_wp2_with fail
  refine (rNil_any w2).mono ?_
  rintro e w4 ⟨vn, rfl, Rn, B4⟩
  have S1 := S1.nx B4
  have BB := BB.trans (B4.mono (by omega))
  have L1 := L1.go hP (by omega) B4
  have hN := Nat.le_trans hN B4.size
  have Rn := Rn w4 (Out P (n + 1) w4)
  go_wp2_with fail
  refine (rList_any A1 c1 r nilD vn w4 (Out P (n + 1) w4) (Out.all hP (by omega)) L1 Rn).mono ?_
  rintro e w5 ⟨vj, rfl, Rj, B5⟩
  have Rj := Rj.res hN B5.size
  have S1 := S1.nx B5
  have BB := BB.trans (B5.mono (by omega))
  have L1 := L1.go hP (by omega) B5
  have hN := Nat.le_trans hN B5.size
  obtain ⟨cs, rfl, cl, co⟩ := Rj.agg
  match cs, cl, co with
  | [x0, x1, x2, x3, x4, x5, x6, x7, x8, x9, x10], _, co =>
  go_wp2_with (refine wp_stD rfl rfl (.tmp 4) (.tmp 9) rfl (n) rfl [x0, x1, x2, x3, x4, x5, x6, x7, x8, x9, x10] rfl rfl _ S1 rfl co ?_)
  have S2 := S1.cells [x0, x1, x2, x3, x4, x5, x6, x7, x8, x9, x10] rfl
  have r0 := S2.cell 0; have r1 := S2.cell 1; have r2 := S2.cell 2; have r3 := S2.cell 3; have r4 := S2.cell 4; have r5 := S2.cell 5; have r6 := S2.cell 6; have r7 := S2.cell 7; have r8 := S2.cell 8; have r9 := S2.cell 9; have r10 := S2.cell 10
  refine bodyPost_ret (v := .agg #[x0, x1, x2, x3, x4, x5, x6, x7, x8, x9, x10]) (by simp [results, r0, r1, r2, r3, r4, r5, r6, r7, r8, r9, r10, go_sem]) rfl ?_
  try rw [hn]
  rw [hr.out]
  exact ⟨_, rfl, (Rj.scO hP (by omega) (g := n) (Nat.le_refl _) (Nat.lt_succ_self _) 0 [x0, x1, x2, x3, x4, x5, x6, x7, x8, x9, x10]).from_ (Nat.le_succ _), below_cso BB (Nat.le_refl _) 0 [x0, x1, x2, x3, x4, x5, x6, x7, x8, x9, x10]⟩

set_option maxRecDepth 100000 in
set_option maxHeartbeats 8000000 in
theorem rsort_any (d : Dat) (v : Value) (w : World) (P : Nat → Prop) (hP : ∀ b, P b → b < w.heap.size) (hR : RDP w P d v) :
    Calls Tryz.prog 14 #[v] w fun e w' => ∃ v', e = .returned (.tuple #[v', .int .i64 (listE d)]) ∧ RDP w' (Out P w.heap.size w') (ransD d (sortD d)) v' ∧ Below w.heap.size w w' := by
  obtain ⟨ls, rfl, ll, lo⟩ := hR.agg
  match ls, ll, lo with
  | [y0, y1, y2, y3, y4, y5, y6, y7, y8, y9, y10], _, lo =>
  have S0 := SB.new w [y0, y1, y2, y3, y4, y5, y6, y7, y8, y9, y10] 30
  have BB := bal w (.cells #[y0, y1, y2, y3, y4, y5, y6, y7, y8, y9, y10] 30)
  have S1 := SB.new (w.alloc (.cells #[y0, y1, y2, y3, y4, y5, y6, y7, y8, y9, y10] 30)) [.int .i64 0, .int .i64 0, .bool false, .slice none 0 0, .slice none 0 0, .bool false, .slice none 0 0, .slice none 0 0, .string { data := #[] }, .slice none 0 0, .slice none 0 0] 30
  have z1 : (w.alloc (.cells #[y0, y1, y2, y3, y4, y5, y6, y7, y8, y9, y10] 30)).heap.size = w.heap.size + 1 := by simp
  have B1 := bal (w.alloc (.cells #[y0, y1, y2, y3, y4, y5, y6, y7, y8, y9, y10] 30)) (.cells #[.int .i64 0, .int .i64 0, .bool false, .slice none 0 0, .slice none 0 0, .bool false, .slice none 0 0, .slice none 0 0, .string { data := #[] }, .slice none 0 0, .slice none 0 0] 30)
  have S0 := S0.nx B1
  have BB := bt BB B1
  rw [z1] at S1
  clear B1 z1
  have R0 : RDP _ P d _ := hR.step (fun z hz => BB.block z (hP z hz)) (fun z hz => hz)
  obtain ⟨W0, hW0⟩ : ∃ W0, W0 = (w.alloc (.cells #[y0, y1, y2, y3, y4, y5, y6, y7, y8, y9, y10] 30)).alloc (.cells #[.int .i64 0, .int .i64 0, .bool false, .slice none 0 0, .slice none 0 0, .bool false, .slice none 0 0, .slice none 0 0, .string { data := #[] }, .slice none 0 0, .slice none 0 0] 30) := ⟨_, rfl⟩
  have hN : w.heap.size + 2 ≤ W0.heap.size := by rw [hW0]; simp
  rw [← hW0] at S0 S1 BB R0
  go_enter Tryz.func14, Tryz.ntmps14
  go_upto_region 1 with fail
  rw [← hW0]
  clear hW0 hR
  generalize hn : w.heap.size = n at *
  have k0 := S0.cell 0; have k1 := S0.cell 1; have k2 := S0.cell 2; have k3 := S0.cell 3; have k4 := S0.cell 4; have k5 := S0.cell 5; have k6 := S0.cell 6; have k7 := S0.cell 7; have k8 := S0.cell 8; have k9 := S0.cell 9; have k10 := S0.cell 10
  go_wp2_with fail
  refine (ritemsAll_any d _ W0 P (fun z hz => by have := hP z hz; omega) R0).mono ?_
  rintro e w2 ⟨A, c, rfl, O2, B2⟩
  clear k0 k1 k2 k3 k4 k5 k6 k7 k8 k9 k10
  have S1 := S1.nx B2
  have BB := BB.trans (B2.mono (by omega))
  have hlc := O2.len
  obtain ⟨g, hg1, hg, M0⟩ := O2.mut'
  have hform := O2.form
  have hg1 : n + 2 ≤ g := by omega
  have hN := Nat.le_trans hN B2.size
  have hlen := listL_len d
  have L2 := O2.rls (by omega)
  have L2 : RLs w2 (Out P (n + 2) w2) A c (listL d) := L2.step (fun _ _ => rfl) (fun b hb => hb.up (by omega) (Nat.le_refl _))
  clear S0 R0 O2 B2
  rcases listE_cases d with he | he | he
  · rw [he]
    go_wp2_with (refine wp_stD rfl rfl (.tmp 2) (.tmp 13) rfl (n + 1) rfl [.int .i64 0, .int .i64 0, .bool false, .slice none 0 0, .slice none 0 0, .bool false, .slice none 0 0, .slice none 0 0, .string { data := #[] }, .slice none 0 0, .slice none 0 0] rfl rfl _ S1 rfl (by simp [Value.oneCell']) ?_)
    have S2 := S1.cells [.int .i64 0, .int .i64 0, .bool false, .slice none 0 0, .slice none 0 0, .bool false, .slice none 0 0, .slice none 0 0, .string { data := #[] }, .slice none 0 0, .slice none 0 0] rfl
    have r0 := S2.cell 0; have r1 := S2.cell 1; have r2 := S2.cell 2; have r3 := S2.cell 3; have r4 := S2.cell 4; have r5 := S2.cell 5; have r6 := S2.cell 6; have r7 := S2.cell 7; have r8 := S2.cell 8; have r9 := S2.cell 9; have r10 := S2.cell 10
    refine bodyPost_ret (v := .tuple #[.agg #[.int .i64 0, .int .i64 0, .bool false, .slice none 0 0, .slice none 0 0, .bool false, .slice none 0 0, .slice none 0 0, .string { data := #[] }, .slice none 0 0, .slice none 0 0], .int .i64 2]) (by simp [results, r0, r1, r2, r3, r4, r5, r6, r7, r8, r9, r10, go_sem]) rfl ?_
    try rw [hn]
    rw [rans_err (by rw [he]; decide), he]
    exact ⟨_, rfl, rd_zeroD _ _, below_cso BB (by omega) 0 [.int .i64 0, .int .i64 0, .bool false, .slice none 0 0, .slice none 0 0, .bool false, .slice none 0 0, .slice none 0 0, .string { data := #[] }, .slice none 0 0, .slice none 0 0]⟩
  · rw [he]
    go_wp2_with (refine wp_stD rfl rfl (.tmp 2) (.tmp 13) rfl (n + 1) rfl [.int .i64 0, .int .i64 0, .bool false, .slice none 0 0, .slice none 0 0, .bool false, .slice none 0 0, .slice none 0 0, .string { data := #[] }, .slice none 0 0, .slice none 0 0] rfl rfl _ S1 rfl (by simp [Value.oneCell']) ?_)
    have S2 := S1.cells [.int .i64 0, .int .i64 0, .bool false, .slice none 0 0, .slice none 0 0, .bool false, .slice none 0 0, .slice none 0 0, .string { data := #[] }, .slice none 0 0, .slice none 0 0] rfl
    have r0 := S2.cell 0; have r1 := S2.cell 1; have r2 := S2.cell 2; have r3 := S2.cell 3; have r4 := S2.cell 4; have r5 := S2.cell 5; have r6 := S2.cell 6; have r7 := S2.cell 7; have r8 := S2.cell 8; have r9 := S2.cell 9; have r10 := S2.cell 10
    refine bodyPost_ret (v := .tuple #[.agg #[.int .i64 0, .int .i64 0, .bool false, .slice none 0 0, .slice none 0 0, .bool false, .slice none 0 0, .slice none 0 0, .string { data := #[] }, .slice none 0 0, .slice none 0 0], .int .i64 10]) (by simp [results, r0, r1, r2, r3, r4, r5, r6, r7, r8, r9, r10, go_sem]) rfl ?_
    try rw [hn]
    rw [rans_err (by rw [he]; decide), he]
    exact ⟨_, rfl, rd_zeroD _ _, below_cso BB (by omega) 0 [.int .i64 0, .int .i64 0, .bool false, .slice none 0 0, .slice none 0 0, .bool false, .slice none 0 0, .slice none 0 0, .string { data := #[] }, .slice none 0 0, .slice none 0 0]⟩
  · rw [he]
    have hsD : sortD d = joinD (sortL (cmpR false) (listL d)) nilD := rfl
    have hgr := GR_off d
    generalize hl0 : listL d = l at *
    replace he := Lib.hid he
    replace hsD := Lib.hid hsD
    clear hform M0 hl0
    have hst := rsorted_any false A c l w2 _ (Out.all hP (by omega)) L2 hgr hlen
    clear hgr L2
    go_wp2_with fail
    refine hst.mono ?_
    clear hst
    rintro e w6 ⟨vf, rfl, Rf, B6⟩
    have Rf := Rf.res hN B6.size
    have S1 := S1.nx B6
    have BB := BB.trans (B6.mono (by omega))
    have hN := Nat.le_trans hN B6.size
    obtain ⟨cs, rfl, cl, co⟩ := Rf.agg
    match cs, cl, co with
    | [x0, x1, x2, x3, x4, x5, x6, x7, x8, x9, x10], _, co =>
    rw [← hsD.out] at Rf
    go_wp2_with (refine wp_stD rfl rfl (.tmp 2) (.tmp 16) rfl (n + 1) rfl [x0, x1, x2, x3, x4, x5, x6, x7, x8, x9, x10] rfl rfl _ S1 rfl co ?_)
    have S2 := S1.cells [x0, x1, x2, x3, x4, x5, x6, x7, x8, x9, x10] rfl
    have r0 := S2.cell 0; have r1 := S2.cell 1; have r2 := S2.cell 2; have r3 := S2.cell 3; have r4 := S2.cell 4; have r5 := S2.cell 5; have r6 := S2.cell 6; have r7 := S2.cell 7; have r8 := S2.cell 8; have r9 := S2.cell 9; have r10 := S2.cell 10
    refine bodyPost_ret (v := .tuple #[.agg #[x0, x1, x2, x3, x4, x5, x6, x7, x8, x9, x10], .int .i64 0]) (by simp [results, r0, r1, r2, r3, r4, r5, r6, r7, r8, r9, r10, go_sem]) rfl ?_
    try rw [hn]
    rw [rans_ok he.out, he.out]
    exact ⟨_, rfl, (Rf.scO hP (by omega) (g := n + 1) (by omega) (by omega) 0 [x0, x1, x2, x3, x4, x5, x6, x7, x8, x9, x10]).from_ (by omega), below_cso BB (by omega) 0 [x0, x1, x2, x3, x4, x5, x6, x7, x8, x9, x10]⟩

set_option maxRecDepth 100000 in
set_option maxHeartbeats 8000000 in
theorem rsortby_any (d : Dat) (v : Value) (w : World) (P : Nat → Prop) (hP : ∀ b, P b → b < w.heap.size) (hR : RDP w P d v) :
    Calls Tryz.prog 16 #[v] w fun e w' => ∃ v', e = .returned (.tuple #[v', .int .i64 (sbE d)]) ∧ RDP w' (Out P w.heap.size w') (sbD d) v' ∧ Below w.heap.size w w' := by
  obtain ⟨ls, rfl, ll, lo⟩ := hR.agg
  match ls, ll, lo with
  | [y0, y1, y2, y3, y4, y5, y6, y7, y8, y9, y10], _, lo =>
  have S0 := SB.new w [y0, y1, y2, y3, y4, y5, y6, y7, y8, y9, y10] 30
  have BB := bal w (.cells #[y0, y1, y2, y3, y4, y5, y6, y7, y8, y9, y10] 30)
  have S1 := SB.new (w.alloc (.cells #[y0, y1, y2, y3, y4, y5, y6, y7, y8, y9, y10] 30)) [.int .i64 0, .int .i64 0, .bool false, .slice none 0 0, .slice none 0 0, .bool false, .slice none 0 0, .slice none 0 0, .string { data := #[] }, .slice none 0 0, .slice none 0 0] 30
  have z1 : (w.alloc (.cells #[y0, y1, y2, y3, y4, y5, y6, y7, y8, y9, y10] 30)).heap.size = w.heap.size + 1 := by simp
  have B1 := bal (w.alloc (.cells #[y0, y1, y2, y3, y4, y5, y6, y7, y8, y9, y10] 30)) (.cells #[.int .i64 0, .int .i64 0, .bool false, .slice none 0 0, .slice none 0 0, .bool false, .slice none 0 0, .slice none 0 0, .string { data := #[] }, .slice none 0 0, .slice none 0 0] 30)
  have S0 := S0.nx B1
  have BB := bt BB B1
  rw [z1] at S1
  clear B1 z1
  have R0 : RDP _ P d _ := hR.step (fun z hz => BB.block z (hP z hz)) (fun z hz => hz)
  obtain ⟨W0, hW0⟩ : ∃ W0, W0 = (w.alloc (.cells #[y0, y1, y2, y3, y4, y5, y6, y7, y8, y9, y10] 30)).alloc (.cells #[.int .i64 0, .int .i64 0, .bool false, .slice none 0 0, .slice none 0 0, .bool false, .slice none 0 0, .slice none 0 0, .string { data := #[] }, .slice none 0 0, .slice none 0 0] 30) := ⟨_, rfl⟩
  have hN : w.heap.size + 2 ≤ W0.heap.size := by rw [hW0]; simp
  rw [← hW0] at S0 S1 BB R0
  go_enter Tryz.func16, Tryz.ntmps16
  go_upto_region 1 with fail
  rw [← hW0]
  clear hW0 hR
  generalize hn : w.heap.size = n at *
  have k0 := S0.cell 0; have k1 := S0.cell 1; have k2 := S0.cell 2; have k3 := S0.cell 3; have k4 := S0.cell 4; have k5 := S0.cell 5; have k6 := S0.cell 6; have k7 := S0.cell 7; have k8 := S0.cell 8; have k9 := S0.cell 9; have k10 := S0.cell 10
  go_wp2_with fail
  refine (ritemsAll_any d _ W0 P (fun z hz => by have := hP z hz; omega) R0).mono ?_
  rintro e w2 ⟨A, c, rfl, O2, B2⟩
  clear k0 k1 k2 k3 k4 k5 k6 k7 k8 k9 k10
  have S1 := S1.nx B2
  have BB := BB.trans (B2.mono (by omega))
  have hlc := O2.len
  obtain ⟨g, hg1, hg, M0⟩ := O2.mut'
  have hform := O2.form
  have hg1 : n + 2 ≤ g := by omega
  have hN := Nat.le_trans hN B2.size
  have hlen := listL_len d
  have L2 := O2.rls (by omega)
  have L2 : RLs w2 (Out P (n + 2) w2) A c (listL d) := L2.step (fun _ _ => rfl) (fun b hb => hb.up (by omega) (Nat.le_refl _))
  clear S0 R0 O2 B2
  rcases listE_cases d with he | he | he
  · rw [he]
    go_wp2_with (refine wp_stD rfl rfl (.tmp 2) (.tmp 13) rfl (n + 1) rfl [.int .i64 0, .int .i64 0, .bool false, .slice none 0 0, .slice none 0 0, .bool false, .slice none 0 0, .slice none 0 0, .string { data := #[] }, .slice none 0 0, .slice none 0 0] rfl rfl _ S1 rfl (by simp [Value.oneCell']) ?_)
    have S2 := S1.cells [.int .i64 0, .int .i64 0, .bool false, .slice none 0 0, .slice none 0 0, .bool false, .slice none 0 0, .slice none 0 0, .string { data := #[] }, .slice none 0 0, .slice none 0 0] rfl
    have r0 := S2.cell 0; have r1 := S2.cell 1; have r2 := S2.cell 2; have r3 := S2.cell 3; have r4 := S2.cell 4; have r5 := S2.cell 5; have r6 := S2.cell 6; have r7 := S2.cell 7; have r8 := S2.cell 8; have r9 := S2.cell 9; have r10 := S2.cell 10
    refine bodyPost_ret (v := .tuple #[.agg #[.int .i64 0, .int .i64 0, .bool false, .slice none 0 0, .slice none 0 0, .bool false, .slice none 0 0, .slice none 0 0, .string { data := #[] }, .slice none 0 0, .slice none 0 0], .int .i64 2]) (by simp [results, r0, r1, r2, r3, r4, r5, r6, r7, r8, r9, r10, go_sem]) rfl ?_
    try rw [hn]
    rw [(sb_err (by rw [he]; decide)).1, (sb_err (by rw [he]; decide)).2, he]
    exact ⟨_, rfl, rd_zeroD _ _, below_cso BB (by omega) 0 [.int .i64 0, .int .i64 0, .bool false, .slice none 0 0, .slice none 0 0, .bool false, .slice none 0 0, .slice none 0 0, .string { data := #[] }, .slice none 0 0, .slice none 0 0]⟩
  · rw [he]
    go_wp2_with (refine wp_stD rfl rfl (.tmp 2) (.tmp 13) rfl (n + 1) rfl [.int .i64 0, .int .i64 0, .bool false, .slice none 0 0, .slice none 0 0, .bool false, .slice none 0 0, .slice none 0 0, .string { data := #[] }, .slice none 0 0, .slice none 0 0] rfl rfl _ S1 rfl (by simp [Value.oneCell']) ?_)
    have S2 := S1.cells [.int .i64 0, .int .i64 0, .bool false, .slice none 0 0, .slice none 0 0, .bool false, .slice none 0 0, .slice none 0 0, .string { data := #[] }, .slice none 0 0, .slice none 0 0] rfl
    have r0 := S2.cell 0; have r1 := S2.cell 1; have r2 := S2.cell 2; have r3 := S2.cell 3; have r4 := S2.cell 4; have r5 := S2.cell 5; have r6 := S2.cell 6; have r7 := S2.cell 7; have r8 := S2.cell 8; have r9 := S2.cell 9; have r10 := S2.cell 10
    refine bodyPost_ret (v := .tuple #[.agg #[.int .i64 0, .int .i64 0, .bool false, .slice none 0 0, .slice none 0 0, .bool false, .slice none 0 0, .slice none 0 0, .string { data := #[] }, .slice none 0 0, .slice none 0 0], .int .i64 10]) (by simp [results, r0, r1, r2, r3, r4, r5, r6, r7, r8, r9, r10, go_sem]) rfl ?_
    try rw [hn]
    rw [(sb_err (by rw [he]; decide)).1, (sb_err (by rw [he]; decide)).2, he]
    exact ⟨_, rfl, rd_zeroD _ _, below_cso BB (by omega) 0 [.int .i64 0, .int .i64 0, .bool false, .slice none 0 0, .slice none 0 0, .bool false, .slice none 0 0, .slice none 0 0, .string { data := #[] }, .slice none 0 0, .slice none 0 0]⟩
  · rw [he]
    have htype := sb_type he
    have hok := sb_ok he
    have hsD : sortByD d = joinD (sortL (cmpR true) (listL d)) nilD := rfl
    have hgr := pairs_GR (d := d)
    generalize listL d = l at *
    replace htype := Lib.hid htype
    replace hok := Lib.hid hok
    replace hsD := Lib.hid hsD
    replace hgr := Lib.hid hgr
    clear he hform M0
    go_upto_region 4 with fail
    go_wp2_with fail
    refine (rpairs_any A c l w2 _ L2).mono ?_
    rintro e w3 ⟨rfl, B3⟩
    have S1 := S1.nx B3
    have L2 := L2.go hP (by omega) B3
    have BB := BB.trans (B3.mono (by omega))
    have hN := Nat.le_trans hN B3.size
    obtain ⟨z, hz⟩ : ∃ z, Hid (pairsB l = z) := ⟨_, Lib.hid rfl⟩
    rw [hz.out]
    cases z with
    | false =>
      have hta := htype.out hz.out
      replace hta := Lib.hid hta
      clear htype hok hgr
      go_wp2_with (refine wp_stD rfl rfl (.tmp 2) (.tmp 18) rfl (n + 1) rfl [.int .i64 0, .int .i64 0, .bool false, .slice none 0 0, .slice none 0 0, .bool false, .slice none 0 0, .slice none 0 0, .string { data := #[] }, .slice none 0 0, .slice none 0 0] rfl rfl _ S1 rfl (by simp [Value.oneCell']) ?_)
      have S2 := S1.cells [.int .i64 0, .int .i64 0, .bool false, .slice none 0 0, .slice none 0 0, .bool false, .slice none 0 0, .slice none 0 0, .string { data := #[] }, .slice none 0 0, .slice none 0 0] rfl
      have r0 := S2.cell 0; have r1 := S2.cell 1; have r2 := S2.cell 2; have r3 := S2.cell 3; have r4 := S2.cell 4; have r5 := S2.cell 5; have r6 := S2.cell 6; have r7 := S2.cell 7; have r8 := S2.cell 8; have r9 := S2.cell 9; have r10 := S2.cell 10
      refine bodyPost_ret (v := .tuple #[.agg #[.int .i64 0, .int .i64 0, .bool false, .slice none 0 0, .slice none 0 0, .bool false, .slice none 0 0, .slice none 0 0, .string { data := #[] }, .slice none 0 0, .slice none 0 0], .int .i64 10]) (by simp [results, r0, r1, r2, r3, r4, r5, r6, r7, r8, r9, r10, go_sem]) rfl ?_
      try rw [hn]
      rw [hta.out.1, hta.out.2]
      exact ⟨_, rfl, rd_zeroD _ _, below_cso BB (by omega) 0 [.int .i64 0, .int .i64 0, .bool false, .slice none 0 0, .slice none 0 0, .bool false, .slice none 0 0, .slice none 0 0, .string { data := #[] }, .slice none 0 0, .slice none 0 0]⟩
    | true =>
      have hta := hok.out hz.out
      replace hta := Lib.hid hta
      have hst := rsorted_any true A c l w3 _ (Out.all hP (by omega)) L2 (hgr.out hz.out) hlen
      clear htype hok hgr L2 B3
      go_wp2_with fail
      refine hst.mono ?_
      clear hst
      rintro e w6 ⟨vf, rfl, Rf, B6⟩
      have Rf := Rf.res hN B6.size
      have S1 := S1.nx B6
      have BB := BB.trans (B6.mono (by omega))
      have hN := Nat.le_trans hN B6.size
      obtain ⟨cs, rfl, cl, co⟩ := Rf.agg
      match cs, cl, co with
      | [x0, x1, x2, x3, x4, x5, x6, x7, x8, x9, x10], _, co =>
      rw [← hsD.out] at Rf
      go_wp2_with (refine wp_stD rfl rfl (.tmp 2) (.tmp 20) rfl (n + 1) rfl [x0, x1, x2, x3, x4, x5, x6, x7, x8, x9, x10] rfl rfl _ S1 rfl co ?_)
      have S2 := S1.cells [x0, x1, x2, x3, x4, x5, x6, x7, x8, x9, x10] rfl
      have r0 := S2.cell 0; have r1 := S2.cell 1; have r2 := S2.cell 2; have r3 := S2.cell 3; have r4 := S2.cell 4; have r5 := S2.cell 5; have r6 := S2.cell 6; have r7 := S2.cell 7; have r8 := S2.cell 8; have r9 := S2.cell 9; have r10 := S2.cell 10
      refine bodyPost_ret (v := .tuple #[.agg #[x0, x1, x2, x3, x4, x5, x6, x7, x8, x9, x10], .int .i64 0]) (by simp [results, r0, r1, r2, r3, r4, r5, r6, r7, r8, r9, r10, go_sem]) rfl ?_
      try rw [hn]
      rw [hta.out.1, hta.out.2.1]
      exact ⟨_, rfl, (Rf.scO hP (by omega) (g := n + 1) (by omega) (by omega) 0 [x0, x1, x2, x3, x4, x5, x6, x7, x8, x9, x10]).from_ (by omega), below_cso BB (by omega) 0 [x0, x1, x2, x3, x4, x5, x6, x7, x8, x9, x10]⟩

end Go.Proofs.YtilhnjecnhpmlaaGreatDoor
