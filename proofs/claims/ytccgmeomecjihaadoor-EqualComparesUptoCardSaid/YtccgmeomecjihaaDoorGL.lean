/- Merged texts: UtfC, EqA. -/
import Derived.Test.YtccgmeomecjihaaDoorGK
import Derived.Test.YtccgmeomecjihaaDoorGH
import Derived.Test.YtccgmeomecjihaaDoorShelfV
import Derived.Laws.IdiomStrings
import Derived.Test.YtccgmeomecjihaaDoorGJ
namespace Go.Proofs.YtccgmeomecjihaaDoor
open Go.RowKit

theorem units8_any (A : Option Addr) (c : Nat) (l : List UInt8) (w : World) (hR : RB w w.heap.size A c l) (hl : l.length ≤ 1048576) :
    Calls Tryd.prog 58 #[.int .i64 1, .slice A l.length c] w fun e w' => ∃ A' c' us, e = .returned (.slice A' us.length c') ∧ OK 80 3 fU w' w.heap.size A' c' us ∧ us.any (·.2.1) = !Lib.validD l ∧ us.length ≤ l.length ∧ Below w.heap.size w w' := by
  have hu := utf8_any A c l w hR hl
  go_enter Tryd.func58, Tryd.ntmps58
  go_wp2_with fail
  refine hu.mono ?_; rintro e w' ⟨A', c', us, rfl, h1, h2, h3, h4⟩
  clear hu
  replace h2 := Lib.hid h2
  go_wp2_with fail
  go_ret
  exact ⟨A', c', us, rfl, h1, h2.out, h3, h4⟩

set_option maxRecDepth 100000 in
set_option maxHeartbeats 4000000 in
theorem valid_any (s : ByteArray) (w : World) (hs : s.size ≤ 1048576) :
    Calls Tryd.prog 40 #[.string s] w fun e w' => e = .returned (.bool (Lib.validD s.data.toList)) ∧ Below w.heap.size w w' := by
  have cv := run_bytes_of_string (P := Tryd.prog) w 9 27 5 s Tryd.underlying9 Tryd.underlying27 Tryd.underlying5
  have hcap := grownCap_ge w s.size 0 5
  generalize grownCap w s.size 0 5 = cap at *
  have B1 := (Below.refl w.heap.size w).drew.alloc (Nat.le_refl _) (.cells (bytesRow s cap) 5 ((bytesRow s cap).size, (bytesRow s cap).size + 1))
  have hnew : (w.drew.alloc (.cells (bytesRow s cap) 5 ((bytesRow s cap).size, (bytesRow s cap).size + 1))).heap[w.heap.size]? = some (.cells (bytesRow s cap) 5 ((bytesRow s cap).size, (bytesRow s cap).size + 1)) := heap_alloc_new w.drew _
  have hsl : s.size = s.data.toList.length := by rw [Array.length_toList]; rfl
  have hR : RB (w.drew.alloc (.cells (bytesRow s cap) 5 ((bytesRow s cap).size, (bytesRow s cap).size + 1))) (w.drew.alloc (.cells (bytesRow s cap) 5 ((bytesRow s cap).size, (bytesRow s cap).size + 1))).heap.size (some ⟨w.heap.size, 0, none⟩) cap s.data.toList := by
    refine ⟨by omega, by omega, fun _ => ⟨w.heap.size, 0, rfl, (Array.getElem?_eq_some_iff.1 hnew).1, fun k x hk => ?_⟩⟩
    have hk' : k < s.data.size := by have := (List.getElem?_eq_some_iff.1 hk).1; simpa using this
    rw [cell_of_row _ _ _ _ _ _ hnew, Nat.zero_add, bytesRow_at s cap k hk']
    have : s.data[k] = x := by
      have := (List.getElem?_eq_some_iff.1 hk).2
      simpa using this
    rw [this]
    rfl
  obtain ⟨W1, hW1⟩ : ∃ W1, W1 = w.drew.alloc (.cells (bytesRow s cap) 5 ((bytesRow s cap).size, (bytesRow s cap).size + 1)) := ⟨_, rfl⟩
  rw [← hW1] at cv B1 hR
  clear hW1 hnew
  obtain ⟨z, hz⟩ : ∃ z, Hid (Lib.validD s.data.toList = z) := ⟨_, rfl⟩
  have hu := units8_any (some ⟨w.heap.size, 0, none⟩) cap s.data.toList W1 hR (by omega)
  rw [hz.out, ← hsl] at hu
  rw [hz.out]
  clear hR hsl hz
  go_enter Tryd.func40, Tryd.ntmps40
  go_wp2_with fail
  refine hu.mono ?_; rintro e w5 ⟨A', c', us, rfl, O5, h2, h3, B5⟩
  have BB := B1.trans (B5.mono B1.size)
  clear hu cv B1 B5
  go_upto_region 3 with fail
  go_loopg [4] us.length (fun gk s4 wx => ∃ i : Nat, s4 = .int .i64 (i : Int) ∧ i ≤ us.length ∧ us.length - i = gk ∧ Hid ((us.drop i).any (·.2.1) = !z) ∧ wx = w5)
  case atStart => exact ⟨0, rfl, Nat.zero_le _, rfl, Lib.hid h2, rfl⟩
  case round =>
    obtain ⟨i, rfl, hil, hgk, hI, rfl⟩ := hrel
    clear h2
    by_cases hi : i < us.length
    · obtain ⟨g, rfl, -, -⟩ : ∃ g, A' = some ⟨g, 0, none⟩ ∧ True ∧ True := by
        rcases O5.form with ⟨_, _, rfl⟩ | ⟨g, e, _⟩
        · simp at hi
        · exact ⟨g, e, trivial, trivial⟩
      have hx := List.getElem?_eq_getElem hi
      have kc := OK.cells (f := fU) (fun _ => rfl) O5 hx 1 (.bool us[i].2.1) rfl
      have hI2 := hI.out
      rw [List.drop_eq_getElem_cons hi, List.any_cons] at hI2
      generalize us[i] = u at *
      obtain ⟨ur, uf, ua⟩ := u
      simp only at kc hI2
      have hwi : IntKind.i64.wrap ((i : Int) + 1) = (i : Int) + 1 := IntWalk.i64_in _ (by omega)
      clear hx hI
      cases uf with
      | true =>
        have hf : Hid (z = false) := Lib.hid (by cases z <;> simp_all)
        clear hI2
        generalize us.length = ul at *
        go_wp2_with fail
        go_ret
        exact ⟨by rw [hf.out]; rfl, BB⟩
      | false =>
        have hn : Hid ((us.drop (i + 1)).any (·.2.1) = !z) := Lib.hid (by rw [← hI2]; simp)
        clear hI2
        go_wp2_with fail
        go_roundg (us.length - (i + 1))
        case measure => omega
        case rel => exact ⟨i + 1, by go_num, by omega, rfl, hn, rfl⟩
    · obtain rfl : i = us.length := by omega
      have hf : Hid (z = true) := Lib.hid (by
        have := hI.out
        rw [List.drop_length] at this
        cases z <;> simp_all)
      clear hI
      generalize us.length = ul at *
      go_wp2_with fail
      go_ret
      exact ⟨by rw [hf.out]; rfl, BB⟩

/-- is a text of characters? -/
def vU (s : ByteArray) : Bool := Lib.validD s.data.toList
theorem RVS.of (B : Nat) (w : World) : RVS vU B w := fun s w' hs _ => valid_any s w' hs
theorem VS.of {w : World} (hT : Lib.Utf8Tabs (Tryd.lays196_ren.g 3) (Tryd.lays196_ren.g 4) w) : VS vU w.heap.size w := fun s w' hs hb =>
  Any.utf8_ValidString Tryd.lays196 s w' (by omega) (Utf8Tabs_below hT hb)
end Go.Proofs.YtccgmeomecjihaaDoor
namespace Go.Proofs.YtccgmeomecjihaaDoor
open Go.RowKit

def bet (x : Int) : Prop := -1 ≤ x ∧ x ≤ 1
theorem cmpZ_bet (a b : Int) : bet (cmpZ a b) := by unfold bet cmpZ; split <;> (try split) <;> omega
theorem cmpL_bet : ∀ (a b : List Nat), bet (cmpL a b)
  | [], [] => by unfold bet cmpL; omega
  | [], _ :: _ => by unfold bet cmpL; omega
  | _ :: _, [] => by unfold bet cmpL; omega
  | x :: xs, y :: ys => by
    unfold cmpL
    have := cmpL_bet xs ys
    split
    · unfold bet; omega
    · split
      · unfold bet; omega
      · exact this
theorem cmpQ_bet (a b : Rat) : bet (cmpQ a b) := by unfold bet cmpQ; split <;> (try split) <;> omega
theorem lex_bet {x y : Int} (h1 : bet x) (h2 : bet y) : bet (if x ≠ 0 then x else y) := by split <;> assumption
theorem numQ_bet (r i r' i' : Rw) : bet (numQ r i r' i') := by unfold numQ; exact lex_bet (cmpQ_bet _ _) (cmpQ_bet _ _)
theorem ordL_bet : ∀ (l l' : List Dat), (∀ x ∈ l, ∀ y, bet (x.ord numQ y)) → bet (ordL numQ l l')
  | [], _, _ => by rw [ordL]; unfold bet; omega
  | x :: xs, [], _ => by rw [ordL]; unfold bet; omega
  | x :: xs, y :: ys, h => by
    rw [ordL]
    exact lex_bet (h x (by simp) y) (ordL_bet xs ys fun p hp => h p (by simp [hp]))
theorem ord_bet (a b : Dat) : bet (a.ord numQ b) := by
  rw [Dat.ord_eq]
  refine lex_bet (cmpZ_bet _ _) ?_
  split
  · exact numQ_bet _ _ _ _
  · split
    · exact cmpL_bet _ _
    · split
      · exact cmpL_bet _ _
      · split
        · exact lex_bet (cmpZ_bet _ _) (ordL_bet _ _ fun x hx y => ord_bet x y)
        · exact cmpZ_bet _ _
termination_by SizeOf.sizeOf a
decreasing_by exact Dat.lt_of_mem hx

theorem cmpQ_lt {p q : Rat} (h : p < q) : cmpQ p q = -1 := by
  unfold cmpQ
  rw [if_pos (qn_iff.2 (by grind))]
theorem cmpQ_gt {p q : Rat} (h : q < p) : cmpQ p q = 1 := by
  have h1 : qn (p + -q) = false := by
    cases h2 : qn (p + -q) with
    | false => rfl
    | true => have := qn_iff.1 h2; grind
  have h2 : qt (p + -q) ≠ 0 := fun h3 => by have := qt_zero.1 h3; grind
  unfold cmpQ
  rw [h1, if_neg (by simp), if_pos (by omega)]
theorem cmpQ_eq (p : Rat) : cmpQ p p = 0 := by
  unfold cmpQ
  rw [show p + -p = 0 by grind]
  rfl
theorem cmpQ_cases (p q : Rat) : (p < q ∧ cmpQ p q = -1) ∨ (p = q ∧ cmpQ p q = 0) ∨ (q < p ∧ cmpQ p q = 1) := by
  by_cases h : p < q
  · exact Or.inl ⟨h, cmpQ_lt h⟩
  · by_cases h2 : p = q
    · subst h2
      exact Or.inr (Or.inl ⟨rfl, cmpQ_eq p⟩)
    · have h3 : q < p := by grind
      exact Or.inr (Or.inr ⟨h3, cmpQ_gt h3⟩)
theorem cmpQ_neg (p q : Rat) : cmpQ q p = -cmpQ p q := by
  rcases cmpQ_cases p q with ⟨h, e⟩ | ⟨h, e⟩ | ⟨h, e⟩
  · rw [e, cmpQ_gt h]; rfl
  · rw [e, h, cmpQ_eq]; rfl
  · rw [e, cmpQ_lt h]

theorem numQ_nb {r i r' i' : Rw} (h : nB r i = true) (h' : nB r' i' = true) : numQ r i r' i' = 0 ↔ r = r' ∧ i = i' := by
  obtain ⟨x, y, rfl, rfl, h1, h2⟩ := nB_rat h
  obtain ⟨u, v, rfl, rfl, h3, h4⟩ := nB_rat h'
  unfold numQ
  rw [qv_rwq, qv_rwq, qv_rwq, qv_rwq]
  rcases cmpQ_cases x u with ⟨a, e⟩ | ⟨a, e⟩ | ⟨a, e⟩
  · rw [e]; simp; intro h; exact absurd (rwq_inj h) (by grind)
  · rw [e, a]; simp
    rcases cmpQ_cases y v with ⟨b, f⟩ | ⟨b, f⟩ | ⟨b, f⟩
    · rw [f]; simp; intro h; exact absurd (rwq_inj h) (by grind)
    · rw [f, b]; simp
    · rw [f]; simp; intro h; exact absurd (rwq_inj h) (by grind)
  · rw [e]; simp; intro h; exact absurd (rwq_inj h) (by grind)
theorem cmpQ_tr (x y z : Rat) : TR (cmpQ x y) (cmpQ y z) (cmpQ x z) := by
  unfold TR
  rcases cmpQ_cases x y with ⟨a, e⟩ | ⟨a, e⟩ | ⟨a, e⟩ <;> rcases cmpQ_cases y z with ⟨b, f⟩ | ⟨b, f⟩ | ⟨b, f⟩ <;> rcases cmpQ_cases x z with ⟨c, g⟩ | ⟨c, g⟩ | ⟨c, g⟩ <;> rw [e, f, g] <;> first | omega | (exfalso; grind)
theorem numOrd : NumOrd numQ where
  turn := fun _ _ => by
    unfold numQ
    exact lex_turn (cmpQ_neg _ _) (fun _ => cmpQ_neg _ _)
  zero := fun h h' => numQ_nb h h'
  tr := fun _ _ _ => by
    unfold numQ
    exact (cmpQ_tr _ _ _).lex fun _ _ _ => cmpQ_tr _ _ _


/-- the data of awake -/
def dA : Dat := .mk 2 0 ⟨false, [], []⟩ ⟨false, [], []⟩ ByteArray.empty [] []
def dB : Dat := .mk 2 1 ⟨false, [], []⟩ ⟨false, [], []⟩ ByteArray.empty [] []
theorem rdA (w : World) (B : Nat) : RD w B dA (.agg #[.int .i64 2, .int .i64 0, .bool false, .slice none 0 0, .slice none 0 0, .bool false, .slice none 0 0, .slice none 0 0, .string { data := #[] }, .slice none 0 0, .slice none 0 0]) := by
  unfold dA
  rw [RD]
  exact ⟨none, 0, none, 0, none, 0, none, 0, none, 0, none, 0, rfl, ⟨RW.nil _ _ _ _, RW.nil _ _ _ _, RW.nil _ _ _ _, RW.nil _ _ _ _, RL.nil _ _ _ _ _⟩, by decide +kernel, by decide, fun h => by simp at h⟩
theorem rdB (w : World) (B : Nat) : RD w B dB (.agg #[.int .i64 2, .int .i64 1, .bool false, .slice none 0 0, .slice none 0 0, .bool false, .slice none 0 0, .slice none 0 0, .string { data := #[] }, .slice none 0 0, .slice none 0 0]) := by
  unfold dB
  rw [RD]
  exact ⟨none, 0, none, 0, none, 0, none, 0, none, 0, none, 0, rfl, ⟨RW.nil _ _ _ _, RW.nil _ _ _ _, RW.nil _ _ _ _, RW.nil _ _ _ _, RL.nil _ _ _ _ _⟩, by decide +kernel, by decide, fun h => by simp at h⟩
theorem dA_sound : dA.sound vU = true := by decide +kernel
theorem dB_sound : dB.sound vU = true := by decide +kernel
theorem dAB : dA.ord numQ dB = -1 := by kernel_rfl
theorem dAA : dB.ord numQ dB = 0 := by kernel_rfl
set_option maxRecDepth 100000 in
set_option maxHeartbeats 4000000 in
theorem awake10_any (w : World) (hV : VS vU w.heap.size w) : Calls Tryd.prog 6 #[] w fun e w' => e = .returned (.bool true) ∧ Below w.heap.size w w' := by
  have SA := SB.new w [.int .i64 2, .int .i64 0, .bool false, .slice none 0 0, .slice none 0 0, .bool false, .slice none 0 0, .slice none 0 0, .string { data := #[] }, .slice none 0 0, .slice none 0 0] 30
  have B1 := bal w (.cells #[.int .i64 2, .int .i64 0, .bool false, .slice none 0 0, .slice none 0 0, .bool false, .slice none 0 0, .slice none 0 0, .string { data := #[] }, .slice none 0 0, .slice none 0 0] 30)
  have SB_ := SB.new (w.alloc (.cells #[.int .i64 2, .int .i64 0, .bool false, .slice none 0 0, .slice none 0 0, .bool false, .slice none 0 0, .slice none 0 0, .string { data := #[] }, .slice none 0 0, .slice none 0 0] 30)) [.int .i64 2, .int .i64 1, .bool false, .slice none 0 0, .slice none 0 0, .bool false, .slice none 0 0, .slice none 0 0, .string { data := #[] }, .slice none 0 0, .slice none 0 0] 30
  have B2 := bal (w.alloc (.cells #[.int .i64 2, .int .i64 0, .bool false, .slice none 0 0, .slice none 0 0, .bool false, .slice none 0 0, .slice none 0 0, .string { data := #[] }, .slice none 0 0, .slice none 0 0] 30)) (.cells #[.int .i64 2, .int .i64 1, .bool false, .slice none 0 0, .slice none 0 0, .bool false, .slice none 0 0, .slice none 0 0, .string { data := #[] }, .slice none 0 0, .slice none 0 0] 30)
  have SA := SA.nx B2
  have BB := bt B1 B2
  have z1 : (w.alloc (.cells #[.int .i64 2, .int .i64 0, .bool false, .slice none 0 0, .slice none 0 0, .bool false, .slice none 0 0, .slice none 0 0, .string { data := #[] }, .slice none 0 0, .slice none 0 0] 30)).heap.size = w.heap.size + 1 := by simp
  rw [z1] at SB_
  go_enter Tryd.func6, Tryd.ntmps6
  go_upto_region 2 with fail
  obtain ⟨W0, hW0⟩ : ∃ W0, W0 = (w.alloc (.cells #[.int .i64 2, .int .i64 0, .bool false, .slice none 0 0, .slice none 0 0, .bool false, .slice none 0 0, .slice none 0 0, .string { data := #[] }, .slice none 0 0, .slice none 0 0] 30)).alloc (.cells #[.int .i64 2, .int .i64 1, .bool false, .slice none 0 0, .slice none 0 0, .bool false, .slice none 0 0, .slice none 0 0, .string { data := #[] }, .slice none 0 0, .slice none 0 0] 30) := ⟨_, rfl⟩
  rw [← hW0] at SA SB_ BB ⊢
  clear hW0 B1 B2 z1
  have V := (hV.st BB).more BB.size
  have c1 := ecmpd_any vU (rdA W0 _) (rdB W0 _) V
  rw [if_pos ⟨dA_sound, dB_sound⟩, dAB] at c1
  have i0 := SA.cell 0; have i1 := SA.cell 1; have i2 := SA.cell 2; have i3 := SA.cell 3; have i4 := SA.cell 4; have i5 := SA.cell 5; have i6 := SA.cell 6; have i7 := SA.cell 7; have i8 := SA.cell 8; have i9 := SA.cell 9; have i10 := SA.cell 10
  have j0 := SB_.cell 0; have j1 := SB_.cell 1; have j2 := SB_.cell 2; have j3 := SB_.cell 3; have j4 := SB_.cell 4; have j5 := SB_.cell 5; have j6 := SB_.cell 6; have j7 := SB_.cell 7; have j8 := SB_.cell 8; have j9 := SB_.cell 9; have j10 := SB_.cell 10
  go_wp2_with fail
  refine c1.mono ?_; rintro e w3 ⟨rfl, B3⟩
  clear i0 j0 i1 j1 i2 j2 i3 j3 i4 j4 i5 j5 i6 j6 i7 j7 i8 j8 i9 j9 i10 j10
  have SA := SA.nx B3
  have SB_ := SB_.nx B3
  have V3 := (V.st B3).more B3.size
  have BB := bt BB B3
  clear V B3 c1
  have c1 := eequal_any vU (rdB w3 _) (rdB w3 _) V3
  rw [dB_sound, dAA] at c1
  have i0 := SA.cell 0; have i1 := SA.cell 1; have i2 := SA.cell 2; have i3 := SA.cell 3; have i4 := SA.cell 4; have i5 := SA.cell 5; have i6 := SA.cell 6; have i7 := SA.cell 7; have i8 := SA.cell 8; have i9 := SA.cell 9; have i10 := SA.cell 10
  have j0 := SB_.cell 0; have j1 := SB_.cell 1; have j2 := SB_.cell 2; have j3 := SB_.cell 3; have j4 := SB_.cell 4; have j5 := SB_.cell 5; have j6 := SB_.cell 6; have j7 := SB_.cell 7; have j8 := SB_.cell 8; have j9 := SB_.cell 9; have j10 := SB_.cell 10
  go_wp2_with fail
  refine c1.mono ?_; rintro e w4 ⟨rfl, B4⟩
  clear i0 j0 i1 j1 i2 j2 i3 j3 i4 j4 i5 j5 i6 j6 i7 j7 i8 j8 i9 j9 i10 j10
  have SA := SA.nx B4
  have SB_ := SB_.nx B4
  have V4 := (V3.st B4).more B4.size
  have BB := bt BB B4
  clear V3 B4 c1
  have c1 := eequal_any vU (rdA w4 _) (rdB w4 _) V4
  rw [dA_sound, dB_sound, dAB] at c1
  have i0 := SA.cell 0; have i1 := SA.cell 1; have i2 := SA.cell 2; have i3 := SA.cell 3; have i4 := SA.cell 4; have i5 := SA.cell 5; have i6 := SA.cell 6; have i7 := SA.cell 7; have i8 := SA.cell 8; have i9 := SA.cell 9; have i10 := SA.cell 10
  have j0 := SB_.cell 0; have j1 := SB_.cell 1; have j2 := SB_.cell 2; have j3 := SB_.cell 3; have j4 := SB_.cell 4; have j5 := SB_.cell 5; have j6 := SB_.cell 6; have j7 := SB_.cell 7; have j8 := SB_.cell 8; have j9 := SB_.cell 9; have j10 := SB_.cell 10
  go_wp2_with fail
  refine c1.mono ?_; rintro e w5 ⟨rfl, B5⟩
  clear i0 j0 i1 j1 i2 j2 i3 j3 i4 j4 i5 j5 i6 j6 i7 j7 i8 j8 i9 j9 i10 j10
  go_wp2_with fail
  go_ret
  exact ⟨rfl, bt BB B5⟩
end Go.Proofs.YtccgmeomecjihaaDoor
