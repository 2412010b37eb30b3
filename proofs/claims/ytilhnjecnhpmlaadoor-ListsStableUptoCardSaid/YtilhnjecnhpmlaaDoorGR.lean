/- Merged texts: EqA, LisN, LisO, LisQ. -/
import Derived.Test.YtilhnjecnhpmlaaDoorGQ
import Derived.Test.YtilhnjecnhpmlaaDoorGL
import Derived.Test.YtilhnjecnhpmlaaDoorGN
namespace Go.Proofs.YtilhnjecnhpmlaaDoor
open Go.RowKit

def bet (x : Int) : Prop := -1 ≤ x ∧ x ≤ 1
theorem cmpZ_bet (a b : Int) : bet (cmpZ a b) := by unfold bet cmpZ; split <;> (try split) <;> omega
theorem cmpL_bet : ∀ (a b : List Nat), bet (cmpL a b)
  | [], [] => by unfold bet cmpL; omega
  | [], _ :: _ => by unfold bet cmpL; omega
  | _ :: _, [] => by unfold bet cmpL; omega
  | x :: xs, y :: ys => by
    unfold cmpL
    have := cmpL_bet xs ys
    split
    · unfold bet; omega
    · split
      · unfold bet; omega
      · exact this
theorem cmpQ_bet (a b : Rat) : bet (cmpQ a b) := by unfold bet cmpQ; split <;> (try split) <;> omega
theorem lex_bet {x y : Int} (h1 : bet x) (h2 : bet y) : bet (if x ≠ 0 then x else y) := by split <;> assumption
theorem numQ_bet (r i r' i' : Rw) : bet (numQ r i r' i') := by unfold numQ; exact lex_bet (cmpQ_bet _ _) (cmpQ_bet _ _)
theorem ordL_bet : ∀ (l l' : List Dat), (∀ x ∈ l, ∀ y, bet (x.ord numQ y)) → bet (ordL numQ l l')
  | [], _, _ => by rw [ordL]; unfold bet; omega
  | x :: xs, [], _ => by rw [ordL]; unfold bet; omega
  | x :: xs, y :: ys, h => by
    rw [ordL]
    exact lex_bet (h x (by simp) y) (ordL_bet xs ys fun p hp => h p (by simp [hp]))
theorem ord_bet (a b : Dat) : bet (a.ord numQ b) := by
  rw [Dat.ord_eq]
  refine lex_bet (cmpZ_bet _ _) ?_
  split
  · exact numQ_bet _ _ _ _
  · split
    · exact cmpL_bet _ _
    · split
      · exact cmpL_bet _ _
      · split
        · exact lex_bet (cmpZ_bet _ _) (ordL_bet _ _ fun x hx y => ord_bet x y)
        · exact cmpZ_bet _ _
termination_by SizeOf.sizeOf a
decreasing_by exact Dat.lt_of_mem hx

theorem cmpQ_lt {p q : Rat} (h : p < q) : cmpQ p q = -1 := by
  unfold cmpQ
  rw [if_pos (qn_iff.2 (by grind))]
theorem cmpQ_gt {p q : Rat} (h : q < p) : cmpQ p q = 1 := by
  have h1 : qn (p + -q) = false := by
    cases h2 : qn (p + -q) with
    | false => rfl
    | true => have := qn_iff.1 h2; grind
  have h2 : qt (p + -q) ≠ 0 := fun h3 => by have := qt_zero.1 h3; grind
  unfold cmpQ
  rw [h1, if_neg (by simp), if_pos (by omega)]
theorem cmpQ_eq (p : Rat) : cmpQ p p = 0 := by
  unfold cmpQ
  rw [show p + -p = 0 by grind]
  rfl
theorem cmpQ_cases (p q : Rat) : (p < q ∧ cmpQ p q = -1) ∨ (p = q ∧ cmpQ p q = 0) ∨ (q < p ∧ cmpQ p q = 1) := by
  by_cases h : p < q
  · exact Or.inl ⟨h, cmpQ_lt h⟩
  · by_cases h2 : p = q
    · subst h2
      exact Or.inr (Or.inl ⟨rfl, cmpQ_eq p⟩)
    · have h3 : q < p := by grind
      exact Or.inr (Or.inr ⟨h3, cmpQ_gt h3⟩)
theorem cmpQ_neg (p q : Rat) : cmpQ q p = -cmpQ p q := by
  rcases cmpQ_cases p q with ⟨h, e⟩ | ⟨h, e⟩ | ⟨h, e⟩
  · rw [e, cmpQ_gt h]; rfl
  · rw [e, h, cmpQ_eq]; rfl
  · rw [e, cmpQ_lt h]

theorem numQ_nb {r i r' i' : Rw} (h : nB r i = true) (h' : nB r' i' = true) : numQ r i r' i' = 0 ↔ r = r' ∧ i = i' := by
  obtain ⟨x, y, rfl, rfl, h1, h2⟩ := nB_rat h
  obtain ⟨u, v, rfl, rfl, h3, h4⟩ := nB_rat h'
  unfold numQ
  rw [qv_rwq, qv_rwq, qv_rwq, qv_rwq]
  rcases cmpQ_cases x u with ⟨a, e⟩ | ⟨a, e⟩ | ⟨a, e⟩
  · rw [e]; simp; intro h; exact absurd (rwq_inj h) (by grind)
  · rw [e, a]; simp
    rcases cmpQ_cases y v with ⟨b, f⟩ | ⟨b, f⟩ | ⟨b, f⟩
    · rw [f]; simp; intro h; exact absurd (rwq_inj h) (by grind)
    · rw [f, b]; simp
    · rw [f]; simp; intro h; exact absurd (rwq_inj h) (by grind)
  · rw [e]; simp; intro h; exact absurd (rwq_inj h) (by grind)
theorem cmpQ_tr (x y z : Rat) : TR (cmpQ x y) (cmpQ y z) (cmpQ x z) := by
  unfold TR
  rcases cmpQ_cases x y with ⟨a, e⟩ | ⟨a, e⟩ | ⟨a, e⟩ <;> rcases cmpQ_cases y z with ⟨b, f⟩ | ⟨b, f⟩ | ⟨b, f⟩ <;> rcases cmpQ_cases x z with ⟨c, g⟩ | ⟨c, g⟩ | ⟨c, g⟩ <;> rw [e, f, g] <;> first | omega | (exfalso; grind)
theorem numOrd : NumOrd numQ where
  turn := fun _ _ => by
    unfold numQ
    exact lex_turn (cmpQ_neg _ _) (fun _ => cmpQ_neg _ _)
  zero := fun h h' => numQ_nb h h'
  tr := fun _ _ _ => by
    unfold numQ
    exact (cmpQ_tr _ _ _).lex fun _ _ _ => cmpQ_tr _ _ _


/-- the data of awake -/
def dA : Dat := .mk 2 0 ⟨false, [], []⟩ ⟨false, [], []⟩ ByteArray.empty [] []
def dB : Dat := .mk 2 1 ⟨false, [], []⟩ ⟨false, [], []⟩ ByteArray.empty [] []
theorem rdA (w : World) (B : Nat) : RD w B dA (.agg #[.int .i64 2, .int .i64 0, .bool false, .slice none 0 0, .slice none 0 0, .bool false, .slice none 0 0, .slice none 0 0, .string { data := #[] }, .slice none 0 0, .slice none 0 0]) := by
  unfold dA
  rw [RD]
  exact ⟨none, 0, none, 0, none, 0, none, 0, none, 0, none, 0, rfl, ⟨RW.nil _ _ _ _, RW.nil _ _ _ _, RW.nil _ _ _ _, RW.nil _ _ _ _, RL.nil _ _ _ _ _⟩, by decide +kernel, by decide, fun h => by simp at h⟩
theorem rdB (w : World) (B : Nat) : RD w B dB (.agg #[.int .i64 2, .int .i64 1, .bool false, .slice none 0 0, .slice none 0 0, .bool false, .slice none 0 0, .slice none 0 0, .string { data := #[] }, .slice none 0 0, .slice none 0 0]) := by
  unfold dB
  rw [RD]
  exact ⟨none, 0, none, 0, none, 0, none, 0, none, 0, none, 0, rfl, ⟨RW.nil _ _ _ _, RW.nil _ _ _ _, RW.nil _ _ _ _, RW.nil _ _ _ _, RL.nil _ _ _ _ _⟩, by decide +kernel, by decide, fun h => by simp at h⟩
theorem dA_sound : dA.sound vU = true := by decide +kernel
theorem dB_sound : dB.sound vU = true := by decide +kernel
theorem dAB : dA.ord numQ dB = -1 := by kernel_rfl
theorem dAA : dB.ord numQ dB = 0 := by kernel_rfl
end Go.Proofs.YtilhnjecnhpmlaaDoor
namespace Go.Proofs.YtilhnjecnhpmlaaDoor
open Go.RowKit

/-- append of one datum to a slice of one that is full -/
theorem wp_appG (w : World) {ops : Array Oper} {rest : List Oper} {o : Oper} {a : Act} {Q : Exit → Act → World → Prop}
    (hg : o.guard = none) (s x : Operand) (hop : o.op = Op.call { callee := Callee.builtin Builtin.append, args := #[s, x], argTypes := #[22, 22] })
    (b0 : Nat) (r0 : C11) (hs : a.eval s = .slice (some ⟨b0, 0, none⟩) 1 1) (h0 : ∀ (j : Nat) u, r0.1[j]? = some u → w.cell? ⟨b0, j, none⟩ = some u)
    (b d : Nat) (r : C11) (hx : a.eval x = .slice (some ⟨b, 0, none⟩) 1 d) (hr : ∀ (j : Nat) u, r.1[j]? = some u → w.cell? ⟨b, j, none⟩ = some u)
    (hK : ∀ A' c' w', OD w' w.heap.size A' c' [r0, r] → Below w.heap.size w w' → wpList Tryd.prog ops Q rest (a.put o.dst (.slice A' 2 c')) w') :
    wpList Tryd.prog ops Q (o :: rest) a w := by
  obtain ⟨i, hi, hz0, hi1, h2⟩ := info_parts infoDf
  refine wpList_plain hg fun K hK' => ?_
  obtain ⟨v', w', hrun, q1, q2⟩ := run_append_arg_grows (P := Tryd.prog) w 22 o.type 31 i (.agg #[.int .i64 0, .int .i64 0, .bool false, .slice none 0 0, .slice none 0 0, .bool false, .slice none 0 0, .slice none 0 0, .string { data := #[] }, .slice none 0 0, .slice none 0 0]) 11 192 Tryd.underlying22 hi hz0 hi1 h2 (by decide) (by decide) ⟨b0, 0, none⟩ 1 1 r0.1 (by rw [r0.2.1])
    (fun j u hj => by rw [Addr.add_lit, Nat.zero_add]; exact h0 j u hj) ⟨b, 0, none⟩ 1 d r.1 (by rw [r.2.1])
    (fun j u hj => by rw [Addr.add_lit, Nat.zero_add]; exact hr j u hj) (by omega) (by unfold maxLen; omega) (by omega)
  have e1 : r0.1 ++ r.1 = [r0, r].flatMap Subtype.val := by simp
  rw [e1] at q1
  unfold Oper.wp execOp
  simp only [hop, resolve, invoke, builtin, Sem.run_bind, Sem.run_pure, Result.andThen_ok, List.map_toArray, List.map_cons, List.map_nil, hs, hx, hrun]
  rcases q1.2 with ⟨rfl, hz⟩ | ⟨g, cap, cur, rfl, a1⟩
  · omega
  · exact hK' _ _ (hK (some ⟨g, 0, none⟩) cap w' (by unfold OD OK; exact q1) ((Below.refl _ _).grown q2 (Nat.le_refl _) (fun k hk => by cases hk)))
/-- the errors of a search in a list -/
def foundE (x d : Dat) : Int := if x.sound vU = true then listE d else 2
def foundL (x d : Dat) : List Dat := if x.sound vU = true then listL d else []
theorem found_no {x d : Dat} (h : x.sound vU = false) : foundE x d = 2 ∧ foundL x d = [] := by unfold foundE foundL; simp [h]
theorem found_yes {x d : Dat} (h : x.sound vU = true) : foundE x d = listE d ∧ foundL x d = listL d := by unfold foundE foundL; simp [h]
theorem found_bad {x d : Dat} (h : d.sound vU = false) : foundE x d = 2 ∧ foundL x d = [] := by
  cases hx : x.sound vU with
  | false => exact found_no hx
  | true => rw [(found_yes hx).1, (found_yes hx).2]; exact list_no h
theorem foundE_cases (x d : Dat) : foundE x d = 2 ∨ foundE x d = 10 ∨ (foundE x d = 0 ∧ x.sound vU = true ∧ listE d = 0 ∧ foundL x d = listL d) := by
  cases hx : x.sound vU with
  | false => exact .inl (found_no hx).1
  | true =>
    rw [(found_yes hx).1, (found_yes hx).2]
    rcases listE_cases d with h | h | h
    · exact .inl h
    · exact .inr (.inl h)
    · exact .inr (.inr ⟨h, rfl, h, rfl⟩)
theorem foundL_len (x d : Dat) : (foundL x d).length ≤ 10000 := by
  unfold foundL
  split
  · exact listL_len d
  · simp
set_option maxRecDepth 100000 in
set_option maxHeartbeats 8000000 in
theorem lread2_any (x d : Dat) (v : Value) (gx : Nat) (cx : C11) (w : World) (P : Nat → Prop) (hP : ∀ b, P b → b < w.heap.size) (hR : RDP w P d v) (hX : RDP w P x (.agg cx.1.toArray)) (hx0 : ∀ (j : Nat) u, cx.1[j]? = some u → w.cell? ⟨gx, j, none⟩ = some u) (hgx : gx < w.heap.size) (hT : Tabs w) :
    Calls Tryd.prog 30 #[v, .slice (some ⟨gx, 0, none⟩) 1 1] w fun e w' => ∃ A c, e = .returned (.tuple #[.slice A (foundL x d).length c, .int .i64 (foundE x d)]) ∧ ROw w' w.heap.size P A c (foundL x d) ∧ Below w.heap.size w w' := by
  obtain ⟨ls, rfl, ll, lo⟩ := hR.agg
  match ls, ll, lo with
  | [y0, y1, y2, y3, y4, y5, y6, y7, y8, y9, y10], _, lo =>
  have S0 := SB.new w [y0, y1, y2, y3, y4, y5, y6, y7, y8, y9, y10] 31
  have BB := bal w (.cells #[y0, y1, y2, y3, y4, y5, y6, y7, y8, y9, y10] 31)
  have R0 : RDP _ P d _ := hR.step (fun z hz => BB.block z (hP z hz)) (fun z hz => hz)
  have X0 : RDP _ P x _ := hX.step (fun z hz => BB.block z (hP z hz)) (fun z hz => hz)
  have hx0 : ∀ (j : Nat) u, cx.1[j]? = some u → (w.alloc (.cells #[y0, y1, y2, y3, y4, y5, y6, y7, y8, y9, y10] 31)).cell? ⟨gx, j, none⟩ = some u := fun j u hj => (BB.cell (p := ⟨gx, j, none⟩) hgx).trans (hx0 j u hj)
  obtain ⟨W0, hW0⟩ : ∃ W0, W0 = w.alloc (.cells #[y0, y1, y2, y3, y4, y5, y6, y7, y8, y9, y10] 31) := ⟨_, rfl⟩
  have hN : w.heap.size + 1 ≤ W0.heap.size := by rw [hW0]; simp
  rw [← hW0] at S0 BB R0 X0 hx0
  go_enter Tryd.func30, Tryd.ntmps30
  go_upto_region 1 with fail
  rw [← hW0]
  clear hW0 hR hX
  generalize hn : w.heap.size = n at *
  have k0 := S0.cell 0; have k1 := S0.cell 1; have k2 := S0.cell 2; have k3 := S0.cell 3; have k4 := S0.cell 4; have k5 := S0.cell 5; have k6 := S0.cell 6; have k7 := S0.cell 7; have k8 := S0.cell 8; have k9 := S0.cell 9; have k10 := S0.cell 10
  have S5 := SB.new W0 [y0, y1, y2, y3, y4, y5, y6, y7, y8, y9, y10] 31
  have Ba := bal W0 (.cells #[y0, y1, y2, y3, y4, y5, y6, y7, y8, y9, y10] 31)
  have hz1 : (W0.alloc (.cells #[y0, y1, y2, y3, y4, y5, y6, y7, y8, y9, y10] 31)).heap.size = W0.heap.size + 1 := by simp
  have hx1 : ∀ (j : Nat) u, cx.1[j]? = some u → (W0.alloc (.cells #[y0, y1, y2, y3, y4, y5, y6, y7, y8, y9, y10] 31)).cell? ⟨gx, j, none⟩ = some u := fun j u hj => (Ba.cell (p := ⟨gx, j, none⟩) (by show gx < _; omega)).trans (hx0 j u hj)
  go_upto_region 2 with (at_builtin; refine wp_appG _ rfl _ _ rfl gx cx rfl hx1 W0.heap.size _ ⟨[y0, y1, y2, y3, y4, y5, y6, y7, y8, y9, y10], rfl, lo⟩ rfl (fun j u hj => (S5.1 j u hj).1) ?_; intro A3 c3 w2 O2 G2)
  clear k0 k1 k2 k3 k4 k5 k6 k7 k8 k9 k10
  rw [hz1] at O2 G2
  have Bw : Below W0.heap.size W0 w2 := Ba.trans (G2.mono (by omega))
  have S0 := S0.lo Bw (by omega)
  have hP1 : ∀ b, P b → b < W0.heap.size := fun b hb => by have := hP b hb; omega
  have R0 : RDP w2 P d _ := R0.keep hP1 Bw
  have X0 : RDP w2 P x _ := X0.keep hP1 Bw
  have BB := BB.trans (Bw.mono (by omega))
  have hN2 := Bw.size
  have OO : ROw w2 (W0.heap.size + 1) P A3 c3 [x, d] := ⟨[cx, ⟨[y0, y1, y2, y3, y4, y5, y6, y7, y8, y9, y10], rfl, lo⟩], O2, rfl, fun i y hy => match i, hy with
    | 0, hy => by
      obtain rfl : x = y := by simpa using hy
      exact ⟨_, rfl, X0⟩
    | 1, hy => by
      obtain rfl : d = y := by simpa using hy
      exact ⟨_, rfl, R0⟩
    | i + 2, hy => by simp at hy⟩
  have OO := OO.base_le (B := n + 1) (by omega)
  obtain ⟨g, rfl, hg1, hg2, M0⟩ := OO.mut (by simp)
  have hN : n + 1 ≤ w2.heap.size := by omega
  clear O2 G2 Bw Ba S5 hz1 OO hx0 hx1 X0
  go_loopg [15] 2 (fun gk s15 wx => ∃ k : Nat, s15 = .int .i64 (k : Int) ∧ k + gk = 2 ∧ SB wx n [y0, y1, y2, y3, y4, y5, y6, y7, y8, y9, y10] ∧ RDP wx P d (.agg #[y0, y1, y2, y3, y4, y5, y6, y7, y8, y9, y10]) ∧ RowM wx P g 0 [x, d] ∧ Below n w wx ∧ n + 1 ≤ wx.heap.size ∧ g < wx.heap.size ∧ (1 ≤ k → x.sound vU = true) ∧ (2 ≤ k → d.sound vU = true))
  case atStart => exact ⟨0, rfl, rfl, S0, R0, M0, BB, hN, hg2, fun h => by omega, fun h => by omega⟩
  case round =>
    clear S0 R0 M0 BB hN hg2
    obtain ⟨k, rfl, hk, S1, R1, M1, B1, hN, hg3, hs1, hs2⟩ := hrel
    by_cases hk0 : k < 2
    · obtain ⟨cs, hl, so, re⟩ := M1.at_ (i := k) (by simpa using hk0)
      match cs, hl with
      | [x0, x1, x2, x3, x4, x5, x6, x7, x8, x9, x10], _ =>
      obtain ⟨_, e2, _, oy⟩ := re.agg
      obtain rfl := congrArg Array.toList (Value.agg.inj e2)
      clear e2
      obtain ⟨y, hy⟩ : ∃ y, [x, d][k] = y := ⟨_, rfl⟩
      rw [hy] at re
      replace hy := Lib.hid hy
      have k0 : wr.cell? ⟨g, k * 11, none⟩ = some x0 := (by simpa using so.cell 0); have k1 : wr.cell? ⟨g, k * 11 + 1, none⟩ = some x1 := (by simpa using so.cell 1); have k2 : wr.cell? ⟨g, k * 11 + 2, none⟩ = some x2 := (by simpa using so.cell 2); have k3 : wr.cell? ⟨g, k * 11 + 3, none⟩ = some x3 := (by simpa using so.cell 3); have k4 : wr.cell? ⟨g, k * 11 + 4, none⟩ = some x4 := (by simpa using so.cell 4); have k5 : wr.cell? ⟨g, k * 11 + 5, none⟩ = some x5 := (by simpa using so.cell 5); have k6 : wr.cell? ⟨g, k * 11 + 6, none⟩ = some x6 := (by simpa using so.cell 6); have k7 : wr.cell? ⟨g, k * 11 + 7, none⟩ = some x7 := (by simpa using so.cell 7); have k8 : wr.cell? ⟨g, k * 11 + 8, none⟩ = some x8 := (by simpa using so.cell 8); have k9 : wr.cell? ⟨g, k * 11 + 9, none⟩ = some x9 := (by simpa using so.cell 9); have k10 : wr.cell? ⟨g, k * 11 + 10, none⟩ = some x10 := (by simpa using so.cell 10)
      have Sg := SB.new wr [.int .i64 0, .int .i64 0, .bool false, .slice none 0 0, .slice none 0 0, .bool false, .slice none 0 0, .slice none 0 0, .string { data := #[] }, .slice none 0 0, .slice none 0 0] 31
      obtain ⟨w4, hw4⟩ : ∃ w4, w4 = (wr.alloc (.cells #[.int .i64 0, .int .i64 0, .bool false, .slice none 0 0, .slice none 0 0, .bool false, .slice none 0 0, .slice none 0 0, .string { data := #[] }, .slice none 0 0, .slice none 0 0] 31)).setCells wr.heap.size 0 [x0, x1, x2, x3, x4, x5, x6, x7, x8, x9, x10] := ⟨_, rfl⟩
      have Bw4 : Below wr.heap.size wr w4 := by rw [hw4]; exact below_cso (bal wr _) (Nat.le_refl _) 0 [x0, x1, x2, x3, x4, x5, x6, x7, x8, x9, x10]
      have S4 : SB w4 wr.heap.size [x0, x1, x2, x3, x4, x5, x6, x7, x8, x9, x10] := by rw [hw4]; exact Sg.cells [x0, x1, x2, x3, x4, x5, x6, x7, x8, x9, x10] rfl
      have hgwr : n + 1 ≤ wr.heap.size := hN
      replace hw4 := Lib.hid hw4
      have hkz : (k : Int) < 2 := by omega
      go_upto_region 4 with (refine wp_stD rfl rfl (.tmp 7) (.tmp 18) rfl wr.heap.size rfl [x0, x1, x2, x3, x4, x5, x6, x7, x8, x9, x10] rfl rfl _ Sg rfl oy ?_; rw [← hw4.out]; clear hw4)
      clear Sg
      clear k0 k1 k2 k3 k4 k5 k6 k7 k8 k9 k10
      have S1 := S1.nx Bw4
      have R1 := R1.keeps hP (by omega) Bw4
      have re := re.keeps hP (by omega) Bw4
      have B1 := B1.trans (Bw4.mono (by omega))
      have M1 := M1.keep (fun b hb => Nat.lt_of_lt_of_le (hP b hb) (by omega)) Bw4
      have hN := Nat.le_trans hN Bw4.size
      have k0 := S4.cell 0; have k1 := S4.cell 1; have k2 := S4.cell 2; have k3 := S4.cell 3; have k4 := S4.cell 4; have k5 := S4.cell 5; have k6 := S4.cell 6; have k7 := S4.cell 7; have k8 := S4.cell 8; have k9 := S4.cell 9; have k10 := S4.cell 10
      have hg4 : g < w4.heap.size := by have := Bw4.size; omega
      go_wp2_with fail
      refine (dsound_any vU y _ w4 (re.snd hP (by omega)) (hT.go hn B1).vs).mono ?_
      rintro e w5 ⟨rfl, B5⟩
      clear k0 k1 k2 k3 k4 k5 k6 k7 k8 k9 k10
      have S1 := S1.nx B5
      have R1 := R1.keeps hP (by omega) B5
      have re := re.keeps hP (by omega) B5
      have B1 := B1.trans (B5.mono (by omega))
      have M1 := M1.keep (fun b hb => Nat.lt_of_lt_of_le (hP b hb) (by omega)) B5
      have hN := Nat.le_trans hN B5.size
      have hg5 : g < w5.heap.size := by have := B5.size; omega
      obtain ⟨z, hz⟩ : ∃ z, Hid (y.sound vU = z) := ⟨_, Lib.hid rfl⟩
      rw [hz.out]
      have hyc : (k = 0 ∧ y = x) ∨ (k = 1 ∧ y = d) := by
        have := hy.out
        match k, hk0 with
        | 0, _ => exact .inl ⟨rfl, this.symm⟩
        | 1, _ => exact .inr ⟨rfl, this.symm⟩
      replace hyc := Lib.hid hyc
      cases z with
      | false =>
        have hf : foundE x d = 2 ∧ foundL x d = [] := by
          rcases hyc.out with ⟨_, h⟩ | ⟨_, h⟩
          · exact found_no (h ▸ hz.out)
          · exact found_bad (h ▸ hz.out)
        replace hf := Lib.hid hf
        go_wp2_with fail
        go_ret2
        rw [hf.out.1, hf.out.2]
        try rw [hn]
        exact ⟨_, _, rfl, ROw.nil _ _ _, B1⟩
      | true =>
        go_upto_region 6 with fail
        go_wp2_with fail
        go_roundg (2 - (k + 1))
        case measure => omega
        case rel => exact ⟨k + 1, by simp, by omega, S1, R1, M1, B1, hN, hg5, fun _ => by
          rcases hyc.out with ⟨_, h⟩ | ⟨h1, h⟩
          · exact h ▸ hz.out
          · exact hs1 (by omega), fun h2 => by
          rcases hyc.out with ⟨h1, h⟩ | ⟨h1, h⟩
          · omega
          · exact h ▸ hz.out⟩
    · obtain rfl : k = 2 := by omega
      have hd := hs2 (Nat.le_refl _)
      have hfy := found_yes (d := d) (hs1 (by omega))
      replace hfy := Lib.hid hfy
      clear hs1 hs2
      obtain ⟨hj, hk8⟩ := join_parts hd
      have hlen := join_len vU_nil (hj ▸ hd)
      have R1 : RDP wr P (joinD d.parts.1 d.parts.2) _ := hj ▸ R1
      clear hj
      have k0 := S1.cell 0; have k1 := S1.cell 1; have k2 := S1.cell 2; have k3 := S1.cell 3; have k4 := S1.cell 4; have k5 := S1.cell 5; have k6 := S1.cell 6; have k7 := S1.cell 7; have k8 := S1.cell 8; have k9 := S1.cell 9; have k10 := S1.cell 10
      go_wp2_with fail
      refine (litems_any d.parts.1 d.parts.2 hk8 (by omega) _ wr P (fun z hz => by have := hP z hz; omega) R1).mono ?_
      rintro e w2 ⟨A, c, rfl, O2, B2⟩
      clear k0 k1 k2 k3 k4 k5 k6 k7 k8 k9 k10
      have hN2 := B2.size
      have B1 := B1.trans (B2.mono (by omega))
      obtain ⟨z, hz⟩ : ∃ z, Hid ((d.parts.2.k == 1) = z) := ⟨_, Lib.hid rfl⟩
      rw [hz.out]
      go_upto_region 8 with fail
      cases z with
      | false =>
        go_wp2_with fail
        go_ret2
        rw [hfy.out.1, hfy.out.2, (list_bad hd hz.out).1, (list_bad hd hz.out).2]
        try rw [hn]
        exact ⟨_, _, rfl, ROw.nil _ _ _, B1⟩
      | true =>
        go_wp2_with fail
        go_ret2
        rw [hfy.out.1, hfy.out.2, (list_ok hd hz.out).1, (list_ok hd hz.out).2]
        try rw [hn]
        exact ⟨_, _, rfl, O2.base_le (by omega), B1⟩

end Go.Proofs.YtilhnjecnhpmlaaDoor
namespace Go.Proofs.YtilhnjecnhpmlaaDoor
open Go.RowKit

theorem ROw.mut2 {w : World} {base : Nat} {Q : Nat → Prop} {A : Option Addr} {c : Nat} {l : List Dat} (h : ROw w base Q A c l) (hb : base ≤ w.heap.size) : ∃ g, base ≤ g ∧ g ≤ w.heap.size ∧ (0 < l.length → A = some ⟨g, 0, none⟩ ∧ g < w.heap.size) ∧ RowM w Q g 0 l := by
  by_cases h0 : 0 < l.length
  · obtain ⟨g, h1, h2, h3, h4⟩ := h.mut h0
    exact ⟨g, h2, Nat.le_of_lt h3, fun _ => ⟨h1, h3⟩, h4⟩
  · obtain rfl : l = [] := List.eq_nil_of_length_eq_zero (by omega)
    exact ⟨base, Nat.le_refl _, hb, fun h => absurd h h0, fun i x h => by cases h⟩
/-- the place of the first item that is x -/
noncomputable def idxD (x : Dat) (l : List Dat) : Nat := l.findIdx fun y => sameD x y
theorem idx_hit {x : Dat} {l : List Dat} {k : Nat} (hk : k < l.length) (h : ∀ i (hi : i < l.length), i < k → x ≠ l[i]) (he : x = l[k]) : idxD x l = k := by
  unfold idxD
  rw [List.findIdx_eq hk]
  exact ⟨same_yes he, fun j hj => same_no (h j (by omega) hj)⟩
theorem idx_none {x : Dat} {l : List Dat} (h : ∀ i (hi : i < l.length), x ≠ l[i]) : idxD x l = l.length := by
  unfold idxD
  refine List.findIdx_eq_length.2 fun y hy => ?_
  obtain ⟨i, hi, rfl⟩ := List.getElem_of_mem hy
  exact same_no (h i hi)
/-- the answers of Member: the program's, the reference's -/
noncomputable def memD (x d : Dat) : Dat := if foundE x d = 0 then if idxD x (foundL x d) < (foundL x d).length then fitD (joinD ((foundL x d).drop (idxD x (foundL x d))) nilD) else zeroD else zeroD
noncomputable def memE (x d : Dat) : Int := if foundE x d = 0 then if idxD x (foundL x d) < (foundL x d).length then fitE (joinD ((foundL x d).drop (idxD x (foundL x d))) nilD) else 7 else foundE x d
theorem mem_err {x d : Dat} (h : foundE x d ≠ 0) : memD x d = zeroD ∧ memE x d = foundE x d := by unfold memD memE; rw [if_neg h, if_neg h]; exact ⟨rfl, rfl⟩
theorem mem_hit {x d : Dat} {k : Nat} {l : List Dat} (h : foundE x d = 0) (hl : foundL x d = l) (hk : k < l.length) (h1 : ∀ i (hi : i < l.length), i < k → x ≠ l[i]) (he : x = l[k]) :
    memD x d = fitD (joinD (l.drop k) nilD) ∧ memE x d = fitE (joinD (l.drop k) nilD) := by
  have := idx_hit hk h1 he
  unfold memD memE
  rw [hl, this, if_pos h, if_pos h, if_pos hk, if_pos hk]; exact ⟨rfl, rfl⟩
theorem mem_none {x d : Dat} {l : List Dat} (h : foundE x d = 0) (hl : foundL x d = l) (h1 : ∀ i (hi : i < l.length), x ≠ l[i]) : memD x d = zeroD ∧ memE x d = 7 := by
  have := idx_none h1
  unfold memD memE
  rw [hl, this, if_pos h, if_pos h, if_neg (Nat.lt_irrefl _), if_neg (Nat.lt_irrefl _)]; exact ⟨rfl, rfl⟩
/-- the reference does not look at the answer's size, and need not -/
theorem mem_fit {x d : Dat} {k : Nat} (h : foundE x d = 0) : fitD (joinD ((foundL x d).drop k) nilD) = joinD ((foundL x d).drop k) nilD ∧ fitE (joinD ((foundL x d).drop k) nilD) = 0 := by
  rcases foundE_cases x d with he | he | ⟨_, _, hd, hL⟩
  · rw [he] at h; cases h
  · rw [he] at h; cases h
  · rw [hL]; exact fit_yes (sub_sound vU_nil (listL_back hd) (List.drop_sublist _ _))
theorem found_item {x d y : Dat} (h : y ∈ foundL x d) : y.sound vU = true := by
  unfold foundL at h
  split at h
  · exact listL_sound h
  · cases h

end Go.Proofs.YtilhnjecnhpmlaaDoor
namespace Go.Proofs.YtilhnjecnhpmlaaDoor
open Go.RowKit

noncomputable def findI (q : Dat → Bool) (l : List Dat) : Int := if l.findIdx q < l.length then (l.findIdx q : Int) else -1
theorem find_hit {q : Dat → Bool} {l : List Dat} {k : Nat} (hk : k < l.length) (h : ∀ i (hi : i < l.length), i < k → q l[i] = false) (he : q l[k] = true) : findI q l = k := by
  have : l.findIdx q = k := by
    rw [List.findIdx_eq hk]
    exact ⟨he, fun j hj => h j (by omega) hj⟩
  unfold findI
  rw [this, if_pos hk]
theorem find_none {q : Dat → Bool} {l : List Dat} (h : ∀ i (hi : i < l.length), q l[i] = false) : findI q l = -1 := by
  have : l.findIdx q = l.length := List.findIdx_eq_length.2 fun y hy => by
    obtain ⟨i, hi, rfl⟩ := List.getElem_of_mem hy
    exact h i hi
  unfold findI
  rw [this, if_neg (Nat.lt_irrefl _)]
theorem find_cases (q : Dat → Bool) (l : List Dat) : (findI q l = -1 ∧ ∀ y ∈ l, q y = false) ∨ ∃ k, ∃ hk : k < l.length, findI q l = (k : Int) ∧ (∀ i (hi : i < l.length), i < k → q l[i] = false) ∧ q l[k] = true := by
  by_cases h : l.findIdx q < l.length
  · refine .inr ⟨l.findIdx q, h, ?_, fun i hi hk => by simpa using List.not_of_lt_findIdx hk, List.findIdx_getElem⟩
    unfold findI; rw [if_pos h]
  · refine .inl ⟨?_, fun y hy => ?_⟩
    · unfold findI; rw [if_neg h]
    · have : l.findIdx q = l.length := by have := List.findIdx_le_length (p := q) (xs := l); omega
      exact List.findIdx_eq_length.1 this y hy

set_option maxRecDepth 100000 in
theorem pairs1_any (y : Dat) (vy : Value) (w : World) (P : Nat → Prop) (hY : RDP w P y vy) : Calls Tryd.prog 53 #[vy] w fun e w' => e = .returned (.bool (y.k != 8)) ∧ Below w.heap.size w w' := by
  obtain ⟨cs, rfl, cl, co⟩ := hY.agg
  obtain ⟨y1, y2, y3, y4, y5, y6, y7, y8, y9, y10, rfl, -⟩ := hY.head
  have S0 := SB.new w [.int .i64 y.k, y1, y2, y3, y4, y5, y6, y7, y8, y9, y10] 31
  have BB := bal w (.cells #[.int .i64 y.k, y1, y2, y3, y4, y5, y6, y7, y8, y9, y10] 31)
  clear hY co
  generalize y.k = k at *
  have k0 := S0.cell 0
  go_enter Tryd.func53, Tryd.ntmps53
  go_wp2_with fail
  go_ret
  exact ⟨rfl, BB⟩
set_option maxRecDepth 100000 in
set_option maxHeartbeats 8000000 in
theorem index_p (A : Option Addr) (c : Nat) (l : List Dat) (w : World) (P : Nat → Prop) (hP : ∀ b, P b → b < w.heap.size) (hL : RLs w P A c l) :
    Calls Tryd.prog 70 #[.slice A l.length c, .func (.func 53) #[] #[]] w fun e w' => e = .returned (.int .i64 (findI (fun y : Dat => y.k != 8) l)) ∧ Below w.heap.size w w' := by
  have hl1 := hL.2.1
  go_enter Tryd.func70, Tryd.ntmps70
  go_upto_region 2 with fail
  have BB := Below.refl w.heap.size w
  have hN : w.heap.size ≤ w.heap.size := Nat.le_refl _
  generalize hn : w.heap.size = n at *
  go_loopg [8] l.length (fun gk s8 wx => ∃ k : Nat, s8 = .int .i64 (k : Int) ∧ k + gk = l.length ∧ RLs wx P A c l ∧ Below n w wx ∧ n ≤ wx.heap.size ∧ ∀ i (hi : i < l.length), i < k → (fun y : Dat => y.k != 8) l[i] = false)
  case atStart => exact ⟨0, rfl, by omega, hL, BB, by omega, fun i _ h => by omega⟩
  case round =>
    clear hL BB hN 
    obtain ⟨k, rfl, hgk, L1, BB, hN, hno⟩ := hrel
    replace hno := Lib.hid hno
    by_cases hk : k < l.length
    · obtain ⟨b, off, rfl, hPb, cs, cl, co, Rx, rx⟩ := L1.at_ hk
      match cs, cl, co with
      | [z0, z1, z2, z3, z4, z5, z6, z7, z8, z9, z10], _, co =>
      have hkz : (k : Int) < (l.length : Int) := by omega
      
      have k0 := rx 0 _ rfl; have k1 := rx 1 _ rfl; have k2 := rx 2 _ rfl; have k3 := rx 3 _ rfl; have k4 := rx 4 _ rfl; have k5 := rx 5 _ rfl; have k6 := rx 6 _ rfl; have k7 := rx 7 _ rfl; have k8 := rx 8 _ rfl; have k9 := rx 9 _ rfl; have k10 := rx 10 _ rfl
      simp only [Nat.add_zero] at k0
      go_upto_region 4 with fail
      go_wp2_with fail
      refine (pairs1_any l[k] _ wr P Rx).mono ?_
      rintro e w5 ⟨rfl, B5⟩
      clear k0 k1 k2 k3 k4 k5 k6 k7 k8 k9 k10
      clear rx Rx
      have L1 := L1.keeps hP (by omega) B5
      have BB := BB.trans (B5.mono (by omega))
      have hN := Nat.le_trans hN B5.size
      obtain ⟨z, hz⟩ : ∃ z, Hid ((fun y : Dat => y.k != 8) l[k] = z) := ⟨_, Lib.hid rfl⟩
      have hz1 : (l[k].k != 8) = z := hz.out
      rw [hz1]
      clear hz1
      cases z with
      | true =>
        have hta := find_hit (q := (fun y : Dat => y.k != 8)) hk hno.out hz.out
        replace hta := Lib.hid hta
        go_wp2_with fail
        go_ret
        try rw [hn]
        rw [hta.out]
        exact ⟨rfl, BB⟩
      | false =>
        go_upto_region 6 with fail
        go_wp2_with fail
        go_roundg (l.length - (k + 1))
        case measure => omega
        case rel => exact ⟨k + 1, by simp, by omega, L1, BB, hN, fun i hi h => by
          by_cases e : i = k
          · subst e; exact hz.out
          · exact hno.out i hi (by omega)⟩
    · have hkz : ¬ (k : Int) < (l.length : Int) := by omega
      have hta := find_none (q := (fun y : Dat => y.k != 8)) (fun i hi => hno.out i hi (by omega))
      replace hta := Lib.hid hta
      go_wp2_with fail
      go_ret
      try rw [hn]
      rw [hta.out]
      exact ⟨rfl, BB⟩

/-- are all pairs? -/
def pairsB (l : List Dat) : Bool := l.all fun y => y.k == 8
theorem pairs_find (l : List Dat) : decide (0 ≤ findI (fun y : Dat => y.k != 8) l) = !pairsB l := by
  rcases find_cases (fun y : Dat => y.k != 8) l with ⟨h, h2⟩ | ⟨k, hk, h, _, h2⟩
  · have : pairsB l = true := List.all_eq_true.2 fun y hy => by have := h2 y hy; simpa using this
    rw [h, this]; rfl
  · have : pairsB l = false := List.all_eq_false.2 ⟨l[k], List.getElem_mem hk, by simpa using h2⟩
    rw [h, this]
    exact decide_eq_true (by omega)
set_option maxRecDepth 100000 in
theorem contains_p (A : Option Addr) (c : Nat) (l : List Dat) (w : World) (P : Nat → Prop) (hP : ∀ b, P b → b < w.heap.size) (hL : RLs w P A c l) :
    Calls Tryd.prog 52 #[.slice A l.length c, .func (.func 53) #[] #[]] w fun e w' => e = .returned (.bool (!pairsB l)) ∧ Below w.heap.size w w' := by
  go_enter Tryd.func52, Tryd.ntmps52
  go_wp2_with fail
  refine (index_p A c l w P hP hL).mono ?_
  rintro e w5 ⟨rfl, B5⟩
  have hpf := pairs_find l
  generalize findI (fun y : Dat => y.k != 8) l = z at *
  replace hpf := Lib.hid hpf
  go_wp2_with fail
  go_ret
  refine ⟨?_, B5⟩
  show Ending.returned (.bool (decide (0 ≤ z))) = _
  rw [hpf.out]
set_option maxRecDepth 100000 in
theorem lpairs_any (A : Option Addr) (c : Nat) (l : List Dat) (w : World) (P : Nat → Prop) (hP : ∀ b, P b → b < w.heap.size) (hL : RLs w P A c l) :
    Calls Tryd.prog 41 #[.slice A l.length c] w fun e w' => e = .returned (.bool (pairsB l)) ∧ Below w.heap.size w w' := by
  go_enter Tryd.func41, Tryd.ntmps41
  go_wp2_with fail
  refine (contains_p A c l w P hP hL).mono ?_
  rintro e w5 ⟨rfl, B5⟩
  go_wp2_with fail
  go_ret
  exact ⟨by simp, B5⟩

theorem pairs_all {l : List Dat} (h : ∀ i (hi : i < l.length), l[i].k = 8) : pairsB l = true := all_of fun i hi => by simpa using h i hi
theorem pairs_bad {l : List Dat} {i : Nat} (hi : i < l.length) (h : ¬ l[i].k = 8) : pairsB l = false := List.all_eq_false.2 ⟨l[i], List.getElem_mem hi, by simpa using h⟩
end Go.Proofs.YtilhnjecnhpmlaaDoor
