/- Merged texts: SrtT, SrtV. -/
import Derived.Test.YtilhnjecnhpmlaaDoorGX
import Derived.Test.YtilhnjecnhpmlaaDoorGW
namespace Go.Proofs.YtilhnjecnhpmlaaDoor

def charD (n : Int) : Dat := .mk 4 n ⟨false, [], []⟩ ⟨false, [], []⟩ ByteArray.empty [] []
theorem charD_good {n : Int} (h0 : 0 ≤ n) (h1 : n ≤ 55295) : (charD n).Good vU := by
  refine .mk ?_ fun x hx => by cases hx
  unfold Dat.shape charD
  have h2 : isCharB n = true := by unfold isCharB; simp [h0, h1]
  have h3 : textK 4 = false := by decide
  simp [Dat.k, Dat.n, Dat.re, Dat.im, Dat.t, Dat.raw, Dat.l, noR, h2, h3, vU_nil]
theorem charD_dp (n : Int) : (charD n).dp = 0 := by rw [Dat.dp_eq]; rfl
theorem charD_nodes (n : Int) : (charD n).nodes = 1 := by rw [Dat.nodes_eq]; rfl
theorem charD_ord (a b : Int) : (charD a).ord numQ (charD b) = cmpZ a b := by
  rw [Dat.ord_eq]
  have h1 : cmpZ 4 4 = 0 := by decide
  have h3 : textK 4 = false := by decide
  simp [charD, Dat.k, Dat.n, h1, h3]
/-- the i-th pair -/
def keyI (u : List UInt8) (i : Nat) : Dat := pairD (charD ((((u.getD i 0).toNat % 5 : Nat)) : Int)) (charD (i : Int))
def itemsK (u : List UInt8) (m : Nat) : List Dat := (List.range m).map (keyI u)
theorem itemsK_len (u : List UInt8) (m : Nat) : (itemsK u m).length = m := by simp [itemsK]
theorem itemsK_step (u : List UInt8) (m : Nat) : itemsK u (m + 1) = itemsK u m ++ [keyI u m] := by simp [itemsK, List.range_succ]
theorem itemsK_get (u : List UInt8) {m s : Nat} (h : s < m) : (itemsK u m).getD s nilD = keyI u s := by
  rw [List.getD_eq_getElem?_getD, List.getElem?_eq_getElem (by rw [itemsK_len]; exact h)]
  simp [itemsK]
theorem keyI_good (u : List UInt8) {i : Nat} (h : i < 250) : (keyI u i).Good vU := (pair_good vU_nil).2 ⟨charD_good (by omega) (by omega), charD_good (by omega) (by omega)⟩
theorem keyI_dp (u : List UInt8) (i : Nat) : (keyI u i).dp ≤ 1 := by
  unfold keyI pairD
  rw [Dat.dp_eq]
  simp [Dat.l, Dat.k, dpL, charD_dp]
theorem keyI_nodes (u : List UInt8) (i : Nat) : (keyI u i).nodes = 3 := by
  unfold keyI pairD
  rw [Dat.nodes_eq]
  simp [Dat.l, nodesL, charD_nodes]
theorem nodesS_three : ∀ (l : List Dat), (∀ x ∈ l, x.nodes ≤ 3) → nodesS l ≤ 4 * l.length
  | [], _ => by simp [nodesS]
  | x :: xs, h => by
    have h1 := nodesS_three xs fun y hy => h y (by simp [hy])
    have h2 := h x (by simp)
    simp only [nodesS, List.map_cons, List.sum_cons, List.length_cons] at *
    omega
theorem nilD_dp : nilD.dp = 0 := by rw [Dat.dp_eq]; rfl
theorem nilD_nodes : nilD.nodes = 1 := by rw [Dat.nodes_eq]; rfl
theorem mem_itemsK {u : List UInt8} {m : Nat} {x : Dat} (hx : x ∈ itemsK u m) : ∃ i, i < m ∧ x = keyI u i := by
  obtain ⟨i, hi, rfl⟩ := List.mem_map.1 hx
  exact ⟨i, List.mem_range.1 hi, rfl⟩
theorem itemsK_sound (u : List UInt8) {m : Nat} (h : m ≤ 250) : (joinD (itemsK u m) nilD).sound vU = true := by
  rw [join_sound vU_nil]
  refine ⟨fun x hx => ?_, nil_good, by rw [nilD_dp]; omega, ?_⟩
  · obtain ⟨i, hi, rfl⟩ := mem_itemsK hx
    exact ⟨keyI_good u (by omega), by have := keyI_dp u i; omega⟩
  · have := nodesS_three (itemsK u m) fun x hx => by
      obtain ⟨i, hi, rfl⟩ := mem_itemsK hx
      exact Nat.le_of_eq (keyI_nodes u i)
    rw [itemsK_len] at this
    rw [nilD_nodes]
    omega
/-- the pairs, sorted -/
theorem stable_law (u : List UInt8) {m : Nat} (h : m ≤ 250) : ∃ s : List Dat, ofD (itemsK u m) = joinD (itemsK u m) nilD ∧ sbE (joinD (itemsK u m) nilD) = 0 ∧ sbD (joinD (itemsK u m) nilD) = joinD s nilD ∧ listE (joinD s nilD) = 0 ∧ listL (joinD s nilD) = s ∧ s.length = m ∧
    ∃ f g : Nat → Nat, (∀ i (hi : i < s.length), s[i] = pairD (charD (f i : Nat)) (charD (g i : Nat))) ∧ ∀ i, i + 1 < m → f i < f (i + 1) ∨ (f i = f (i + 1) ∧ g i < g (i + 1)) := by
  have h1 := itemsK_sound u h
  obtain ⟨h2, h3⟩ := listE_join h1
  have hp : pairsB (itemsK u m) = true := List.all_eq_true.2 fun x hx => by
    obtain ⟨i, hi, rfl⟩ := mem_itemsK hx
    rfl
  have hsb := sb_ok h2 (by rw [h3]; exact hp)
  have hg : ∀ x ∈ itemsK u m, x.Good vU := fun x hx => by
    obtain ⟨i, hi, rfl⟩ := mem_itemsK hx
    exact keyI_good u (by omega)
  have hq := tord_car hg
  have hS := isSorted_any hq
  have hs2 : sortByD (joinD (itemsK u m) nilD) = joinD (sortL ordC (itemsK u m)) nilD := by unfold sortByD; rw [h3]
  have h4 : (joinD (sortL ordC (itemsK u m)) nilD).sound vU = true := perm_sound vU_nil h1 (sortL_perm hq)
  obtain ⟨h5, h6⟩ := listE_join h4
  have hlen : (sortL ordC (itemsK u m)).length = m := by rw [sortL_len hq, itemsK_len]
  refine ⟨sortL ordC (itemsK u m), (fit_yes h1).1, hsb.2.1, hsb.1.trans hs2, h5, h6, hlen, ?_⟩
  obtain ⟨τ, pτ, sτ, e⟩ := hS
  rw [itemsK_len] at pτ sτ
  have hlp : (perml (itemsK u m) τ).length = m := by rw [perml_len, itemsK_len]
  rw [e]
  refine ⟨fun i => (u.getD (τ i) 0).toNat % 5, τ, fun i hi => ?_, fun i hi => ?_⟩
  · rw [perml_get, itemsK_get u (pτ.lt (by omega))]
    rfl
  · have h7 := sτ i (i + 1) (Nat.zero_le _) (by omega) hi
    unfold tlt at h7
    have h8 : qOf ordC (itemsK u m) (τ i) (τ (i + 1)) = cmpZ (((u.getD (τ i) 0).toNat % 5 : Nat) : Int) (((u.getD (τ (i + 1)) 0).toNat % 5 : Nat) : Int) := by
      unfold qOf
      rw [itemsK_get u (pτ.lt (by omega)), itemsK_get u (pτ.lt hi)]
      unfold ordC ordQ keyI
      rw [carK_pair, carK_pair, charD_ord]
    rw [h8] at h7
    unfold cmpZ at h7
    show (u.getD (τ i) 0).toNat % 5 < (u.getD (τ (i + 1)) 0).toNat % 5 ∨ _
    revert h7
    split
    · intro _; left; omega
    · split
      · intro h7; omega
      · intro h7
        rcases h7 with h7 | h7
        · omega
        · right; exact ⟨by show (u.getD (τ i) 0).toNat % 5 = (u.getD (τ (i + 1)) 0).toNat % 5; omega, h7.2⟩
end Go.Proofs.YtilhnjecnhpmlaaDoor
namespace Go.Proofs.YtilhnjecnhpmlaaDoor
open Go.RowKit

def charCells (n : Int) : List Value := [.int .i64 4, .int .i64 n, .bool false, .slice none 0 0, .slice none 0 0, .bool false, .slice none 0 0, .slice none 0 0, .string { data := #[] }, .slice none 0 0, .slice none 0 0]
def pairCells (g : Nat) : List Value := [.int .i64 8, .int .i64 0, .bool false, .slice none 0 0, .slice none 0 0, .bool false, .slice none 0 0, .slice none 0 0, .string { data := #[] }, .slice none 0 0, .slice (some ⟨g, 0, none⟩) 2 2]
def pc (g : Nat) : C11 := ⟨pairCells g, rfl, by simp [pairCells, Value.oneCell']⟩
theorem rd_char (w : World) (P : Nat → Prop) {n : Int} (h0 : 0 ≤ n) (h1 : n ≤ 55295) : RDP w P (charD n) (.agg (charCells n).toArray) :=
  (RDP.mk_ (d := charD n) (WP.nil _ _ _ _) (WP.nil _ _ _ _) (WP.nil _ _ _ _) (WP.nil _ _ _ _) (RLP.nil _ _ _ _ _)
    ⟨⟨show (-9223372036854775808 : Int) ≤ 4 by decide, show (4 : Int) ≤ 9223372036854775807 by decide⟩, ⟨show (-9223372036854775808 : Int) ≤ n by omega, show n ≤ 9223372036854775807 by omega⟩, show (0 : Nat) ≤ 1048576 by decide⟩ ⟨Nat.le_refl 0, Nat.zero_le _⟩ (fun h => absurd h (Nat.lt_irrefl 0)))
theorem rd_two {w : World} {P : Nat → Prop} {g : Nat} {x y : Dat} {cx cy : List Value} (hx : cx.length = 11) (hy : cy.length = 11) (hP : P g) (S : SB w g (cx ++ cy)) (Rx : RDP w P x (.agg cx.toArray)) (Ry : RDP w P y (.agg cy.toArray)) :
    RDP w P (pairD x y) (.agg (pairCells g).toArray) :=
  (RDP.mk_ (d := pairD x y) (L := some ⟨g, 0, none⟩) (lc := 2) (WP.nil _ _ _ _) (WP.nil _ _ _ _) (WP.nil _ _ _ _) (WP.nil _ _ _ _) (RLP.nil _ _ _ _ _)
    (pairD_ok x y) ⟨Nat.le_refl 2, show (2 : Nat) ≤ 35184372088832 by decide⟩ (fun _ => ⟨g, 0, rfl, hP, RDPs.of [x, y] 0 fun i z hz => match i, hz with
      | 0, hz => by
        obtain rfl : x = z := by simpa using hz
        refine ⟨cx, hx, Rx, fun j u hj => (S.1 _ u ?_).1⟩
        rw [show 0 + 0 * 11 + j = j by omega, List.getElem?_append_left (by have := (List.getElem?_eq_some_iff.1 hj).1; omega)]
        exact hj
      | 1, hz => by
        obtain rfl : y = z := by simpa using hz
        refine ⟨cy, hy, Ry, fun j u hj => (S.1 _ u ?_).1⟩
        rw [List.getElem?_append_right (by omega), show 0 + 1 * 11 + j - cx.length = j by omega]
        exact hj
      | i + 2, hz => by simp at hz⟩))
/-- the first m pairs, as they are appended -/
def KRow (w : World) (n : Nat) (A : Option Addr) (c : Nat) (u : List UInt8) (m : Nat) : Prop :=
  ∃ ls : List C11, OD w n A c ls ∧ ls.length = m ∧ ∀ i, i < m → ∃ g, n ≤ g ∧ A ≠ some ⟨g, 0, none⟩ ∧ ls[i]? = some (pc g) ∧ SB w g (charCells ((((u.getD i 0).toNat % 5 : Nat)) : Int) ++ charCells (i : Int))
section
variable {w w' : World} {n : Nat} {A A' : Option Addr} {c c' : Nat} {u : List UInt8} {m g : Nat}
theorem KRow.nx (h : KRow w n A c u m) (hb : Below w.heap.size w w') : KRow w' n A c u m := by
  obtain ⟨ls, h1, h2, h3⟩ := h
  refine ⟨ls, h1.below hb (Nat.le_refl _), h2, fun i hi => ?_⟩
  obtain ⟨g, k1, k2, k3, k4⟩ := h3 i hi
  exact ⟨g, k1, k2, k3, k4.nx hb⟩
theorem KRow.len (h : KRow w n A c u m) : m ≤ c := by
  obtain ⟨ls, h1, h2, h3⟩ := h
  rw [← h2]
  exact h1.lc
theorem own_ne {ls : List C11} (O : OD w n A c ls) (hA : A ≠ some ⟨g, 0, none⟩) : some g ≠ (Value.slice A m c).ownBlock := by
  rcases O.form with ⟨rfl, _⟩ | ⟨k, rfl, _⟩
  · simp [Value.ownBlock]
  · intro h
    simp only [Value.ownBlock, Option.some.injEq] at h
    exact hA (by rw [h])
theorem KRow.push {ls : List C11} (O : OD w n A c ls) (hl : ls.length = m) (hit : ∀ i, i < m → ∃ g, n ≤ g ∧ A ≠ some ⟨g, 0, none⟩ ∧ ls[i]? = some (pc g) ∧ SB w g (charCells ((((u.getD i 0).toNat % 5 : Nat)) : Int) ++ charCells (i : Int)))
    (hg : n ≤ g) (hA : A ≠ some ⟨g, 0, none⟩) (S : SB w g (charCells ((((u.getD m 0).toNat % 5 : Nat)) : Int) ++ charCells (m : Int))) (O' : OD w' n A' c' (ls ++ [pc g])) (hgr : w.grownBy w' (Value.slice A m c).ownBlock) :
    KRow w' n A' c' u (m + 1) := by
  have h0 : ∃ g0, (ls ++ [pc g])[0]? = some (pc g0) := by
    by_cases h : 0 < m
    · obtain ⟨g0, _, _, k3, _⟩ := hit 0 h
      exact ⟨g0, by rw [List.getElem?_append_left (by omega)]; exact k3⟩
    · obtain rfl := List.eq_nil_of_length_eq_zero (show ls.length = 0 by omega)
      exact ⟨g, rfl⟩
  have key : ∀ (k : Nat) (z : Int) (X : List Value), A ≠ some ⟨k, 0, none⟩ → SB w k (charCells z ++ X) → SB w' k (charCells z ++ X) ∧ A' ≠ some ⟨k, 0, none⟩ := fun k z X hk Sk => by
    have S' : SB w' k (charCells z ++ X) := Sk.at_blk (hgr.block k Sk.2 (own_ne O hk)) hgr.size
    refine ⟨S', fun e => ?_⟩
    subst e
    obtain ⟨g0, e0⟩ := h0
    have c1 := OK.cells (fun x : C11 => x.2.1) O' e0 0 _ rfl
    have c2 := S'.cell 0
    simp only [Nat.zero_mul, Nat.add_zero] at c1
    rw [c1] at c2
    cases c2
  refine ⟨ls ++ [pc g], O', by simp [hl], fun i hi => ?_⟩
  by_cases h : i < m
  · obtain ⟨k, k1, k2, k3, k4⟩ := hit i h
    obtain ⟨s1, s2⟩ := key k _ _ k2 k4
    exact ⟨k, k1, s2, by rw [List.getElem?_append_left (by omega)]; exact k3, s1⟩
  · obtain rfl : i = m := by omega
    obtain ⟨s1, s2⟩ := key g _ _ hA S
    exact ⟨g, hg, s2, by rw [List.getElem?_append_right (by omega), hl]; simp, s1⟩
theorem KRow.row (h : KRow w n A c u m) (hm : m ≤ 250) : ROw w n (fun b => n ≤ b ∧ b < w.heap.size) A c (itemsK u m) := by
  obtain ⟨ls, h1, h2, h3⟩ := h
  refine ⟨ls, h1, by rw [itemsK_len]; exact h2, fun i x hx => ?_⟩
  have hi : i < m := by have := (List.getElem?_eq_some_iff.1 hx).1; rwa [itemsK_len] at this
  obtain ⟨g, k1, k2, k3, k4⟩ := h3 i hi
  have hxe : keyI u i = x := by
    have h4 := itemsK_get u hi
    rw [List.getD_eq_getElem?_getD, hx] at h4
    exact h4.symm
  subst hxe
  exact ⟨pc g, k3, rd_two rfl rfl ⟨k1, k4.2⟩ k4 (rd_char _ _ (by omega) (by omega)) (rd_char _ _ (by omega) (by omega))⟩
end
/-- append of one datum: what else stands, stands -/
theorem wp_appGr (w : World) {ops : Array Oper} {rest : List Oper} {o : Oper} {a : Act} {Q : Exit → Act → World → Prop}
    (hg : o.guard = none) (s x : Operand) (hop : o.op = Op.call { callee := Callee.builtin Builtin.append, args := #[s, x], argTypes := #[22, 22] })
    (base : Nat) (A : Option Addr) (c n : Nat) (l : List C11) (hs : a.eval s = .slice A n c) (hn : n = l.length) (hown : OD w base A c l)
    (b d : Nat) (r : C11) (hx : a.eval x = .slice (some ⟨b, 0, none⟩) 1 d) (hr : ∀ j u, r.1[j]? = some u → w.cell? ⟨b, j, none⟩ = some u)
    (hlen : l.length ≤ 2000000) (hbase : base ≤ w.heap.size)
    (hK : ∀ A' c' w', OD w' base A' c' (l ++ [r]) → w.grownBy w' (Value.slice A n c).ownBlock → Below base w w' → wpList Tryd.prog ops Q rest (a.put o.dst (.slice A' (l.length + 1) c')) w') :
    wpList Tryd.prog ops Q (o :: rest) a w :=
  wp_app1 w 22 31 11 Subtype.val (.agg #[.int .i64 0, .int .i64 0, .bool false, .slice none 0 0, .slice none 0 0, .bool false, .slice none 0 0, .slice none 0 0, .string { data := #[] }, .slice none 0 0, .slice none 0 0]) 192 Tryd.underlying22 infoDf rfl (by decide) (fun x => x.2.1)
    (fun x u hu => x.2.2 u hu) hg s x hop base A c n l hs hn hown b d r hx hr (by omega) (by omega) hbase
    fun A' c' w' h1 h2 => hK A' c' w' h1 h2 ((Below.refl _ _).grown h2 hbase (by
      intro k hk
      rcases hown.form with ⟨rfl, _⟩ | ⟨g, rfl, hb, _⟩
      · simp [Value.ownBlock] at hk
      · simp [Value.ownBlock] at hk; omega))
end Go.Proofs.YtilhnjecnhpmlaaDoor
