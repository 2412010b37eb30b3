/- Merged texts: UtfC, LisB, LisR, LisC, LisP, LisD, AnyW, LisE. -/
import Derived.Test.YtilhnjecnhpmlaaDoorGK
import Derived.Test.YtilhnjecnhpmlaaDoorGH
import Derived.Test.YtilhnjecnhpmlaaDoorShelfV
import Derived.Laws.IdiomStrings
import Derived.Test.YtilhnjecnhpmlaaDoorGJ
namespace Go.Proofs.YtilhnjecnhpmlaaDoor
open Go.RowKit

theorem units8_any (A : Option Addr) (c : Nat) (l : List UInt8) (w : World) (hR : RB w w.heap.size A c l) (hl : l.length ≤ 1048576) :
    Calls Tryd.prog 85 #[.int .i64 1, .slice A l.length c] w fun e w' => ∃ A' c' us, e = .returned (.slice A' us.length c') ∧ OK 106 3 fU w' w.heap.size A' c' us ∧ us.any (·.2.1) = !Lib.validD l ∧ us.length ≤ l.length ∧ Below w.heap.size w w' := by
  have hu := utf8_any A c l w hR hl
  go_enter Tryd.func85, Tryd.ntmps85
  go_wp2_with fail
  refine hu.mono ?_; rintro e w' ⟨A', c', us, rfl, h1, h2, h3, h4⟩
  clear hu
  replace h2 := Lib.hid h2
  go_wp2_with fail
  go_ret
  exact ⟨A', c', us, rfl, h1, h2.out, h3, h4⟩

set_option maxRecDepth 100000 in
set_option maxHeartbeats 4000000 in
theorem valid_any (s : ByteArray) (w : World) (hs : s.size ≤ 1048576) :
    Calls Tryd.prog 66 #[.string s] w fun e w' => e = .returned (.bool (Lib.validD s.data.toList)) ∧ Below w.heap.size w w' := by
  have cv := run_bytes_of_string (P := Tryd.prog) w 9 29 5 s Tryd.underlying9 Tryd.underlying29 Tryd.underlying5
  have hcap := grownCap_ge w s.size 0 5
  generalize grownCap w s.size 0 5 = cap at *
  have B1 := (Below.refl w.heap.size w).drew.alloc (Nat.le_refl _) (.cells (bytesRow s cap) 5 ((bytesRow s cap).size, (bytesRow s cap).size + 1))
  have hnew : (w.drew.alloc (.cells (bytesRow s cap) 5 ((bytesRow s cap).size, (bytesRow s cap).size + 1))).heap[w.heap.size]? = some (.cells (bytesRow s cap) 5 ((bytesRow s cap).size, (bytesRow s cap).size + 1)) := heap_alloc_new w.drew _
  have hsl : s.size = s.data.toList.length := by rw [Array.length_toList]; rfl
  have hR : RB (w.drew.alloc (.cells (bytesRow s cap) 5 ((bytesRow s cap).size, (bytesRow s cap).size + 1))) (w.drew.alloc (.cells (bytesRow s cap) 5 ((bytesRow s cap).size, (bytesRow s cap).size + 1))).heap.size (some ⟨w.heap.size, 0, none⟩) cap s.data.toList := by
    refine ⟨by omega, by omega, fun _ => ⟨w.heap.size, 0, rfl, (Array.getElem?_eq_some_iff.1 hnew).1, fun k x hk => ?_⟩⟩
    have hk' : k < s.data.size := by have := (List.getElem?_eq_some_iff.1 hk).1; simpa using this
    rw [cell_of_row _ _ _ _ _ _ hnew, Nat.zero_add, bytesRow_at s cap k hk']
    have : s.data[k] = x := by
      have := (List.getElem?_eq_some_iff.1 hk).2
      simpa using this
    rw [this]
    rfl
  obtain ⟨W1, hW1⟩ : ∃ W1, W1 = w.drew.alloc (.cells (bytesRow s cap) 5 ((bytesRow s cap).size, (bytesRow s cap).size + 1)) := ⟨_, rfl⟩
  rw [← hW1] at cv B1 hR
  clear hW1 hnew
  obtain ⟨z, hz⟩ : ∃ z, Hid (Lib.validD s.data.toList = z) := ⟨_, rfl⟩
  have hu := units8_any (some ⟨w.heap.size, 0, none⟩) cap s.data.toList W1 hR (by omega)
  rw [hz.out, ← hsl] at hu
  rw [hz.out]
  clear hR hsl hz
  go_enter Tryd.func66, Tryd.ntmps66
  go_wp2_with fail
  refine hu.mono ?_; rintro e w5 ⟨A', c', us, rfl, O5, h2, h3, B5⟩
  have BB := B1.trans (B5.mono B1.size)
  clear hu cv B1 B5
  go_upto_region 3 with fail
  go_loopg [4] us.length (fun gk s4 wx => ∃ i : Nat, s4 = .int .i64 (i : Int) ∧ i ≤ us.length ∧ us.length - i = gk ∧ Hid ((us.drop i).any (·.2.1) = !z) ∧ wx = w5)
  case atStart => exact ⟨0, rfl, Nat.zero_le _, rfl, Lib.hid h2, rfl⟩
  case round =>
    obtain ⟨i, rfl, hil, hgk, hI, rfl⟩ := hrel
    clear h2
    by_cases hi : i < us.length
    · obtain ⟨g, rfl, -, -⟩ : ∃ g, A' = some ⟨g, 0, none⟩ ∧ True ∧ True := by
        rcases O5.form with ⟨_, _, rfl⟩ | ⟨g, e, _⟩
        · simp at hi
        · exact ⟨g, e, trivial, trivial⟩
      have hx := List.getElem?_eq_getElem hi
      have kc := OK.cells (f := fU) (fun _ => rfl) O5 hx 1 (.bool us[i].2.1) rfl
      have hI2 := hI.out
      rw [List.drop_eq_getElem_cons hi, List.any_cons] at hI2
      generalize us[i] = u at *
      obtain ⟨ur, uf, ua⟩ := u
      simp only at kc hI2
      have hwi : IntKind.i64.wrap ((i : Int) + 1) = (i : Int) + 1 := IntWalk.i64_in _ (by omega)
      clear hx hI
      cases uf with
      | true =>
        have hf : Hid (z = false) := Lib.hid (by cases z <;> simp_all)
        clear hI2
        generalize us.length = ul at *
        go_wp2_with fail
        go_ret
        exact ⟨by rw [hf.out]; rfl, BB⟩
      | false =>
        have hn : Hid ((us.drop (i + 1)).any (·.2.1) = !z) := Lib.hid (by rw [← hI2]; simp)
        clear hI2
        go_wp2_with fail
        go_roundg (us.length - (i + 1))
        case measure => omega
        case rel => exact ⟨i + 1, by go_num, by omega, rfl, hn, rfl⟩
    · obtain rfl : i = us.length := by omega
      have hf : Hid (z = true) := Lib.hid (by
        have := hI.out
        rw [List.drop_length] at this
        cases z <;> simp_all)
      clear hI
      generalize us.length = ul at *
      go_wp2_with fail
      go_ret
      exact ⟨by rw [hf.out]; rfl, BB⟩

/-- is a text of characters? -/
def vU (s : ByteArray) : Bool := Lib.validD s.data.toList
theorem RVS.of (B : Nat) (w : World) : RVS vU B w := fun s w' hs _ => valid_any s w' hs
theorem VS.of {w : World} (hT : Lib.Utf8Tabs (Tryd.lays196_ren.g 3) (Tryd.lays196_ren.g 4) w) : VS vU w.heap.size w := fun s w' hs hb =>
  Any.utf8_ValidString Tryd.lays196 s w' (by omega) (Utf8Tabs_below hT hb)
end Go.Proofs.YtilhnjecnhpmlaaDoor
namespace Go.Proofs.YtilhnjecnhpmlaaDoor
open Go.RowKit

/-- the tables of unicode/utf8 stand -/
def Tabs (w : World) : Prop := Lib.Utf8Tabs (Tryd.lays196_ren.g 3) (Tryd.lays196_ren.g 4) w
theorem Tabs.vs {w : World} (h : Tabs w) : VS vU w.heap.size w := VS.of h
section
variable {P : Nat → Prop} {n m k g : Nat} {w w' w2 : World} {d : Dat} {v : Value} {l : List Dat} {A : Option Addr} {c : Nat}
theorem Out.join {b : Nat} (h : Out (Out P m w2) k w' b) (hk : m ≤ k) (hs : w2.heap.size ≤ w'.heap.size) : Out P m w' b :=
  h.elim (fun h => h.up (Nat.le_refl _) hs) (fun h => .inr ⟨Nat.le_trans hk h.1, h.2⟩)
theorem Out.all (hP : ∀ b, P b → b < n) (hn : n ≤ w.heap.size) : ∀ b, Out P m w b → b < w.heap.size := fun _ h => h.lt hP hn
theorem RDP.keep (h : RDP w P d v) (hP : ∀ b, P b → b < n) (hb : Below n w w') : RDP w' P d v := h.step (fun b hz => hb.block b (hP b hz)) (fun _ h => h)
theorem RDP.keeps (h : RDP w P d v) (hP : ∀ b, P b → b < n) (hn : n ≤ w.heap.size) (hb : Below w.heap.size w w') : RDP w' P d v := h.step (fun b hz => hb.block b (Nat.lt_of_lt_of_le (hP b hz) hn)) (fun _ h => h)
theorem RDP.go (h : RDP w (Out P m w) d v) (hP : ∀ b, P b → b < n) (hn : n ≤ w.heap.size) (hb : Below w.heap.size w w') : RDP w' (Out P m w') d v := h.step (fun b hz => hb.block b (hz.lt hP hn)) (fun _ h => h.up (Nat.le_refl _) hb.size)
theorem RDP.out (h : RDP w P d v) (m : Nat) : RDP w (Out P m w) d v := h.step (fun _ _ => rfl) (fun _ h => .inl h)
theorem RDP.res (h : RDP w' (Out (Out P m w2) k w') d v) (hk : m ≤ k) (hs : w2.heap.size ≤ w'.heap.size) : RDP w' (Out P m w') d v := h.step (fun _ _ => rfl) (fun _ h => h.join hk hs)
theorem RDP.from_ (h : RDP w (Out P k w) d v) (hk : m ≤ k) : RDP w (Out P m w) d v := h.step (fun _ _ => rfl) (fun _ h => h.up hk (Nat.le_refl _))
theorem RDP.scO (h : RDP w (Out P m w) d v) (hP : ∀ b, P b → b < n) (hn : n ≤ w.heap.size) (h1 : n ≤ g) (h2 : g < m) (o : Nat) (cs : List Value) : RDP (w.setCells g o cs) (Out P m (w.setCells g o cs)) d v :=
  h.step (fun _ hz => World.heap_setCells_other w g o cs (hz.lt hP hn) (hz.ne hP h1 h2)) (fun _ h => h.up (Nat.le_refl _) (by rw [size_sc]; exact Nat.le_refl _))
theorem RDP.scP (h : RDP w P d v) (hP : ∀ b, P b → b < n) (hn : n ≤ w.heap.size) (h1 : n ≤ g) (o : Nat) (cs : List Value) : RDP (w.setCells g o cs) P d v :=
  h.step (fun _ hz => World.heap_setCells_other w g o cs (Nat.lt_of_lt_of_le (hP _ hz) hn) (by have := hP _ hz; omega)) (fun _ h => h)
theorem RLs.keeps (h : RLs w P A c l) (hP : ∀ b, P b → b < n) (hn : n ≤ w.heap.size) (hb : Below w.heap.size w w') : RLs w' P A c l := h.step (fun b hz => hb.block b (Nat.lt_of_lt_of_le (hP b hz) hn)) (fun _ h => h)
theorem RLs.go (h : RLs w (Out P m w) A c l) (hP : ∀ b, P b → b < n) (hn : n ≤ w.heap.size) (hb : Below w.heap.size w w') : RLs w' (Out P m w') A c l := h.step (fun b hz => hb.block b (hz.lt hP hn)) (fun _ h => h.up (Nat.le_refl _) hb.size)
theorem RLs.out (h : RLs w P A c l) (m : Nat) : RLs w (Out P m w) A c l := h.step (fun _ _ => rfl) (fun _ h => .inl h)
theorem RLs.scO (h : RLs w (Out P m w) A c l) (hP : ∀ b, P b → b < n) (hn : n ≤ w.heap.size) (h1 : n ≤ g) (h2 : g < m) (o : Nat) (cs : List Value) : RLs (w.setCells g o cs) (Out P m (w.setCells g o cs)) A c l :=
  h.step (fun _ hz => World.heap_setCells_other w g o cs (hz.lt hP hn) (hz.ne hP h1 h2)) (fun _ h => h.up (Nat.le_refl _) (by rw [size_sc]; exact Nat.le_refl _))
theorem RLs.scP (h : RLs w P A c l) (hP : ∀ b, P b → b < n) (hn : n ≤ w.heap.size) (h1 : n ≤ g) (o : Nat) (cs : List Value) : RLs (w.setCells g o cs) P A c l :=
  h.step (fun _ hz => World.heap_setCells_other w g o cs (Nat.lt_of_lt_of_le (hP _ hz) hn) (by have := hP _ hz; omega)) (fun _ h => h)
theorem RLs.res (h : RLs w' (Out (Out P m w2) k w') A c l) (hk : m ≤ k) (hs : w2.heap.size ≤ w'.heap.size) : RLs w' (Out P m w') A c l := h.step (fun _ _ => rfl) (fun _ h => h.join hk hs)
theorem RLs.from_ (h : RLs w (Out P k w) A c l) (hk : m ≤ k) : RLs w (Out P m w) A c l := h.step (fun _ _ => rfl) (fun _ h => h.up hk (Nat.le_refl _))
end
def zeroD : Dat := .mk 0 0 ⟨false, [], []⟩ ⟨false, [], []⟩ ByteArray.empty [] []
def nilD : Dat := .mk 1 0 ⟨false, [], []⟩ ⟨false, [], []⟩ ByteArray.empty [] []
theorem rd_zeroD (w : World) (P : Nat → Prop) : RDP w P zeroD (.agg #[.int .i64 0, .int .i64 0, .bool false, .slice none 0 0, .slice none 0 0, .bool false, .slice none 0 0, .slice none 0 0, .string { data := #[] }, .slice none 0 0, .slice none 0 0]) :=
  (RDP.mk_ (d := zeroD) (WP.nil _ _ _ _) (WP.nil _ _ _ _) (WP.nil _ _ _ _) (WP.nil _ _ _ _) (RLP.nil _ _ _ _ _)
    ⟨⟨show (-9223372036854775808 : Int) ≤ 0 by decide, show (0 : Int) ≤ 9223372036854775807 by decide⟩, ⟨show (-9223372036854775808 : Int) ≤ 0 by decide, show (0 : Int) ≤ 9223372036854775807 by decide⟩, show (0 : Nat) ≤ 1048576 by decide⟩ ⟨Nat.le_refl 0, Nat.zero_le _⟩ (fun h => absurd h (Nat.lt_irrefl 0)))
theorem rd_nilD (w : World) (P : Nat → Prop) : RDP w P nilD (.agg #[.int .i64 1, .int .i64 0, .bool false, .slice none 0 0, .slice none 0 0, .bool false, .slice none 0 0, .slice none 0 0, .string { data := #[] }, .slice none 0 0, .slice none 0 0]) :=
  (RDP.mk_ (d := nilD) (WP.nil _ _ _ _) (WP.nil _ _ _ _) (WP.nil _ _ _ _) (WP.nil _ _ _ _) (RLP.nil _ _ _ _ _)
    ⟨⟨show (-9223372036854775808 : Int) ≤ 1 by decide, show (1 : Int) ≤ 9223372036854775807 by decide⟩, ⟨show (-9223372036854775808 : Int) ≤ 0 by decide, show (0 : Int) ≤ 9223372036854775807 by decide⟩, show (0 : Nat) ≤ 1048576 by decide⟩ ⟨Nat.le_refl 0, Nat.zero_le _⟩ (fun h => absurd h (Nat.lt_irrefl 0)))
set_option maxRecDepth 100000 in
theorem none_any (w : World) : Calls Tryd.prog 27 #[] w fun e w' => ∃ v', e = .returned v' ∧ (∀ w2 P, RDP w2 P nilD v') ∧ Below w.heap.size w w' := by
  have S0 := SB.new w [.int .i64 0, .int .i64 0, .bool false, .slice none 0 0, .slice none 0 0, .bool false, .slice none 0 0, .slice none 0 0, .string { data := #[] }, .slice none 0 0, .slice none 0 0] 31
  have B0 := bal w (.cells #[.int .i64 0, .int .i64 0, .bool false, .slice none 0 0, .slice none 0 0, .bool false, .slice none 0 0, .slice none 0 0, .string { data := #[] }, .slice none 0 0, .slice none 0 0] 31)
  go_enter Tryd.func27, Tryd.ntmps27
  go_wp2_with (refine wp_stD rfl rfl (.tmp 0) (.tmp 1) rfl (w.heap.size) rfl [.int .i64 1, .int .i64 0, .bool false, .slice none 0 0, .slice none 0 0, .bool false, .slice none 0 0, .slice none 0 0, .string { data := #[] }, .slice none 0 0, .slice none 0 0] rfl rfl _ S0 rfl (by simp [Value.oneCell']) ?_)
  have S1 := S0.cells [.int .i64 1, .int .i64 0, .bool false, .slice none 0 0, .slice none 0 0, .bool false, .slice none 0 0, .slice none 0 0, .string { data := #[] }, .slice none 0 0, .slice none 0 0] rfl
  have r0 := S1.cell 0; have r1 := S1.cell 1; have r2 := S1.cell 2; have r3 := S1.cell 3; have r4 := S1.cell 4; have r5 := S1.cell 5; have r6 := S1.cell 6; have r7 := S1.cell 7; have r8 := S1.cell 8; have r9 := S1.cell 9; have r10 := S1.cell 10
  refine bodyPost_ret (v := .agg #[.int .i64 1, .int .i64 0, .bool false, .slice none 0 0, .slice none 0 0, .bool false, .slice none 0 0, .slice none 0 0, .string { data := #[] }, .slice none 0 0, .slice none 0 0]) (by simp [results, r0, r1, r2, r3, r4, r5, r6, r7, r8, r9, r10, go_sem]) rfl ?_
  exact ⟨_, rfl, fun _ _ => rd_nilD _ _, below_cso B0 (b := w.heap.size) (Nat.le_refl _) 0 [.int .i64 1, .int .i64 0, .bool false, .slice none 0 0, .slice none 0 0, .bool false, .slice none 0 0, .slice none 0 0, .string { data := #[] }, .slice none 0 0, .slice none 0 0]⟩

set_option maxRecDepth 100000 in
theorem rNil_any (w : World) : Calls Tryd.prog 35 #[] w fun e w' => ∃ v', e = .returned v' ∧ (∀ w2 P, RDP w2 P nilD v') ∧ Below w.heap.size w w' := by
  have S0 := SB.new w [.int .i64 0, .int .i64 0, .bool false, .slice none 0 0, .slice none 0 0, .bool false, .slice none 0 0, .slice none 0 0, .string { data := #[] }, .slice none 0 0, .slice none 0 0] 31
  have B0 := bal w (.cells #[.int .i64 0, .int .i64 0, .bool false, .slice none 0 0, .slice none 0 0, .bool false, .slice none 0 0, .slice none 0 0, .string { data := #[] }, .slice none 0 0, .slice none 0 0] 31)
  go_enter Tryd.func35, Tryd.ntmps35
  go_wp2_with (refine wp_stD rfl rfl (.tmp 0) (.tmp 1) rfl (w.heap.size) rfl [.int .i64 1, .int .i64 0, .bool false, .slice none 0 0, .slice none 0 0, .bool false, .slice none 0 0, .slice none 0 0, .string { data := #[] }, .slice none 0 0, .slice none 0 0] rfl rfl _ S0 rfl (by simp [Value.oneCell']) ?_)
  have S1 := S0.cells [.int .i64 1, .int .i64 0, .bool false, .slice none 0 0, .slice none 0 0, .bool false, .slice none 0 0, .slice none 0 0, .string { data := #[] }, .slice none 0 0, .slice none 0 0] rfl
  have r0 := S1.cell 0; have r1 := S1.cell 1; have r2 := S1.cell 2; have r3 := S1.cell 3; have r4 := S1.cell 4; have r5 := S1.cell 5; have r6 := S1.cell 6; have r7 := S1.cell 7; have r8 := S1.cell 8; have r9 := S1.cell 9; have r10 := S1.cell 10
  refine bodyPost_ret (v := .agg #[.int .i64 1, .int .i64 0, .bool false, .slice none 0 0, .slice none 0 0, .bool false, .slice none 0 0, .slice none 0 0, .string { data := #[] }, .slice none 0 0, .slice none 0 0]) (by simp [results, r0, r1, r2, r3, r4, r5, r6, r7, r8, r9, r10, go_sem]) rfl ?_
  exact ⟨_, rfl, fun _ _ => rd_nilD _ _, below_cso B0 (b := w.heap.size) (Nat.le_refl _) 0 [.int .i64 1, .int .i64 0, .bool false, .slice none 0 0, .slice none 0 0, .bool false, .slice none 0 0, .slice none 0 0, .string { data := #[] }, .slice none 0 0, .slice none 0 0]⟩

def fitE (d : Dat) : Int := if d.sound vU then 0 else 4
def fitD (d : Dat) : Dat := if d.sound vU then d else zeroD
theorem fit_yes {d : Dat} (h : d.sound vU = true) : fitD d = d ∧ fitE d = 0 := by unfold fitD fitE; simp [h]
theorem fit_no {d : Dat} (h : d.sound vU = false) : fitD d = zeroD ∧ fitE d = 4 := by unfold fitD fitE; simp [h]
set_option maxRecDepth 100000 in
set_option maxHeartbeats 8000000 in
theorem lfit_any (d : Dat) (v : Value) (w : World) (P : Nat → Prop) (hP : ∀ b, P b → b < w.heap.size) (hR : RDP w P d v) (hT : Tabs w) :
    Calls Tryd.prog 25 #[v] w fun e w' => ∃ v', e = .returned (.tuple #[v', .int .i64 (fitE d)]) ∧ RDP w' (Out P w.heap.size w') (fitD d) v' ∧ Below w.heap.size w w' := by
  obtain ⟨ls, rfl, ll, lo⟩ := hR.agg
  match ls, ll, lo with
  | [y0, y1, y2, y3, y4, y5, y6, y7, y8, y9, y10], _, lo =>
  have S0 := SB.new w [y0, y1, y2, y3, y4, y5, y6, y7, y8, y9, y10] 31
  have S1 := SB.new (w.alloc (.cells #[y0, y1, y2, y3, y4, y5, y6, y7, y8, y9, y10] 31)) [.int .i64 0, .int .i64 0, .bool false, .slice none 0 0, .slice none 0 0, .bool false, .slice none 0 0, .slice none 0 0, .string { data := #[] }, .slice none 0 0, .slice none 0 0] 31
  have z1 : (w.alloc (.cells #[y0, y1, y2, y3, y4, y5, y6, y7, y8, y9, y10] 31)).heap.size = w.heap.size + 1 := by simp
  have B0 := bal w (.cells #[y0, y1, y2, y3, y4, y5, y6, y7, y8, y9, y10] 31)
  have B1 := bal (w.alloc (.cells #[y0, y1, y2, y3, y4, y5, y6, y7, y8, y9, y10] 31)) (.cells #[.int .i64 0, .int .i64 0, .bool false, .slice none 0 0, .slice none 0 0, .bool false, .slice none 0 0, .slice none 0 0, .string { data := #[] }, .slice none 0 0, .slice none 0 0] 31)
  have S0 := S0.nx B1
  have BB := bt B0 B1
  rw [z1] at S1
  have R0 : RDP _ P d _ := hR.step (fun z hz => BB.block z (hP z hz)) (fun z hz => hz)
  obtain ⟨W0, hW0⟩ : ∃ W0, W0 = (w.alloc (.cells #[y0, y1, y2, y3, y4, y5, y6, y7, y8, y9, y10] 31)).alloc (.cells #[.int .i64 0, .int .i64 0, .bool false, .slice none 0 0, .slice none 0 0, .bool false, .slice none 0 0, .slice none 0 0, .string { data := #[] }, .slice none 0 0, .slice none 0 0] 31) := ⟨_, rfl⟩
  have hs0 : W0.heap.size = w.heap.size + 2 := by rw [hW0]; simp
  have hT0 : Tabs W0 := by rw [hW0]; exact Utf8Tabs_below hT BB
  rw [← hW0] at S0 S1 BB R0
  go_enter Tryd.func25, Tryd.ntmps25
  go_upto_region 1 with fail
  rw [← hW0]
  replace hs0 := Lib.hid hs0
  clear hW0 hR B0 B1 z1
  generalize hn : w.heap.size = n at *
  have k0 := S0.cell 0; have k1 := S0.cell 1; have k2 := S0.cell 2; have k3 := S0.cell 3; have k4 := S0.cell 4; have k5 := S0.cell 5; have k6 := S0.cell 6; have k7 := S0.cell 7; have k8 := S0.cell 8; have k9 := S0.cell 9; have k10 := S0.cell 10
  go_wp2_with fail
  refine (dsound_any vU d _ W0 (R0.rd (fun z hz => by have := hP z hz; have := hs0.out; omega)) hT0.vs).mono ?_
  rintro e w2 ⟨rfl, B2⟩
  have hn0 : n + 2 ≤ W0.heap.size := by have := hs0.out; omega
  have S0 := S0.nx B2
  have S1 := S1.nx B2
  have BB := BB.trans (B2.mono (by omega))
  have R0 : RDP w2 P d _ := R0.step (fun z hz => B2.block z (by have := hP z hz; omega)) (fun z hz => hz)
  have hT0 : Tabs w2 := Utf8Tabs_below hT0 B2
  clear k0 k1 k2 k3 k4 k5 k6 k7 k8 k9 k10
  obtain ⟨z, hz⟩ : ∃ z, Hid (d.sound vU = z) := ⟨_, rfl⟩
  rw [hz.out]
  cases z with
  | false =>
    go_wp2_with (refine wp_stD rfl rfl (.tmp 2) (.tmp 7) rfl (n + 1) rfl [.int .i64 0, .int .i64 0, .bool false, .slice none 0 0, .slice none 0 0, .bool false, .slice none 0 0, .slice none 0 0, .string { data := #[] }, .slice none 0 0, .slice none 0 0] rfl rfl _ S1 rfl (by simp [Value.oneCell']) ?_)
    have S2 := S1.cells [.int .i64 0, .int .i64 0, .bool false, .slice none 0 0, .slice none 0 0, .bool false, .slice none 0 0, .slice none 0 0, .string { data := #[] }, .slice none 0 0, .slice none 0 0] rfl
    have r0 := S2.cell 0; have r1 := S2.cell 1; have r2 := S2.cell 2; have r3 := S2.cell 3; have r4 := S2.cell 4; have r5 := S2.cell 5; have r6 := S2.cell 6; have r7 := S2.cell 7; have r8 := S2.cell 8; have r9 := S2.cell 9; have r10 := S2.cell 10
    refine bodyPost_ret (v := .tuple #[.agg #[.int .i64 0, .int .i64 0, .bool false, .slice none 0 0, .slice none 0 0, .bool false, .slice none 0 0, .slice none 0 0, .string { data := #[] }, .slice none 0 0, .slice none 0 0], .int .i64 4]) (by simp [results, r0, r1, r2, r3, r4, r5, r6, r7, r8, r9, r10, go_sem]) rfl ?_
    rw [(fit_no hz.out).1, (fit_no hz.out).2]
    try rw [hn]
    exact ⟨_, rfl, rd_zeroD _ _, below_cso BB (by omega) 0 [.int .i64 0, .int .i64 0, .bool false, .slice none 0 0, .slice none 0 0, .bool false, .slice none 0 0, .slice none 0 0, .string { data := #[] }, .slice none 0 0, .slice none 0 0]⟩
  | true =>
    have k0 := S0.cell 0; have k1 := S0.cell 1; have k2 := S0.cell 2; have k3 := S0.cell 3; have k4 := S0.cell 4; have k5 := S0.cell 5; have k6 := S0.cell 6; have k7 := S0.cell 7; have k8 := S0.cell 8; have k9 := S0.cell 9; have k10 := S0.cell 10
    go_wp2_with fail
    refine (copy_go vU _ d (Nat.le_refl _) (Dat.sound_fit hz.out) _ w2 (R0.rd (fun z hz => by have := hP z hz; have := B2.size; omega))).mono ?_
    rintro e w3 ⟨v', rfl, R3, B3⟩
    obtain ⟨cs, rfl, cl, co⟩ := R3.agg
    match cs, cl, co with
    | [x0, x1, x2, x3, x4, x5, x6, x7, x8, x9, x10], _, co =>
    have S1 := S1.nx B3
    have BB := BB.trans (B3.mono (by have := B2.size; omega))
    have hsz : n + 1 < w3.heap.size := S1.2
    clear k0 k1 k2 k3 k4 k5 k6 k7 k8 k9 k10
    go_wp2_with (refine wp_stD rfl rfl (.tmp 2) (.tmp 9) rfl (n + 1) rfl [x0, x1, x2, x3, x4, x5, x6, x7, x8, x9, x10] rfl rfl _ S1 rfl co ?_)
    have S2 := S1.cells [x0, x1, x2, x3, x4, x5, x6, x7, x8, x9, x10] rfl
    have r0 := S2.cell 0; have r1 := S2.cell 1; have r2 := S2.cell 2; have r3 := S2.cell 3; have r4 := S2.cell 4; have r5 := S2.cell 5; have r6 := S2.cell 6; have r7 := S2.cell 7; have r8 := S2.cell 8; have r9 := S2.cell 9; have r10 := S2.cell 10
    refine bodyPost_ret (v := .tuple #[.agg #[x0, x1, x2, x3, x4, x5, x6, x7, x8, x9, x10], .int .i64 0]) (by simp [results, r0, r1, r2, r3, r4, r5, r6, r7, r8, r9, r10, go_sem]) rfl ?_
    rw [(fit_yes hz.out).1, (fit_yes hz.out).2]
    try rw [hn]
    exact ⟨_, rfl, R3.step (fun z hz => World.heap_setCells_other w3 (n + 1) 0 [x0, x1, x2, x3, x4, x5, x6, x7, x8, x9, x10] hz.2 (by have := hz.1; have := B2.size; omega)) (fun z hz => .inr ⟨by have := hz.1; have := B2.size; omega, by rw [size_sc]; exact hz.2⟩), below_cso BB (by omega) 0 [x0, x1, x2, x3, x4, x5, x6, x7, x8, x9, x10]⟩

set_option maxRecDepth 100000 in
set_option maxHeartbeats 8000000 in
theorem rlfit_any (d : Dat) (v : Value) (w : World) (P : Nat → Prop) (hP : ∀ b, P b → b < w.heap.size) (hR : RDP w P d v) :
    Calls Tryd.prog 36 #[v] w fun e w' => ∃ v', e = .returned (.tuple #[v', .int .i64 (fitE d)]) ∧ RDP w' (Out P w.heap.size w') (fitD d) v' ∧ Below w.heap.size w w' := by
  obtain ⟨ls, rfl, ll, lo⟩ := hR.agg
  match ls, ll, lo with
  | [y0, y1, y2, y3, y4, y5, y6, y7, y8, y9, y10], _, lo =>
  have S0 := SB.new w [y0, y1, y2, y3, y4, y5, y6, y7, y8, y9, y10] 31
  have S1 := SB.new (w.alloc (.cells #[y0, y1, y2, y3, y4, y5, y6, y7, y8, y9, y10] 31)) [.int .i64 0, .int .i64 0, .bool false, .slice none 0 0, .slice none 0 0, .bool false, .slice none 0 0, .slice none 0 0, .string { data := #[] }, .slice none 0 0, .slice none 0 0] 31
  have z1 : (w.alloc (.cells #[y0, y1, y2, y3, y4, y5, y6, y7, y8, y9, y10] 31)).heap.size = w.heap.size + 1 := by simp
  have B0 := bal w (.cells #[y0, y1, y2, y3, y4, y5, y6, y7, y8, y9, y10] 31)
  have B1 := bal (w.alloc (.cells #[y0, y1, y2, y3, y4, y5, y6, y7, y8, y9, y10] 31)) (.cells #[.int .i64 0, .int .i64 0, .bool false, .slice none 0 0, .slice none 0 0, .bool false, .slice none 0 0, .slice none 0 0, .string { data := #[] }, .slice none 0 0, .slice none 0 0] 31)
  have S0 := S0.nx B1
  have BB := bt B0 B1
  rw [z1] at S1
  have R0 : RDP _ P d _ := hR.step (fun z hz => BB.block z (hP z hz)) (fun z hz => hz)
  obtain ⟨W0, hW0⟩ : ∃ W0, W0 = (w.alloc (.cells #[y0, y1, y2, y3, y4, y5, y6, y7, y8, y9, y10] 31)).alloc (.cells #[.int .i64 0, .int .i64 0, .bool false, .slice none 0 0, .slice none 0 0, .bool false, .slice none 0 0, .slice none 0 0, .string { data := #[] }, .slice none 0 0, .slice none 0 0] 31) := ⟨_, rfl⟩
  have hs0 : W0.heap.size = w.heap.size + 2 := by rw [hW0]; simp

  rw [← hW0] at S0 S1 BB R0
  go_enter Tryd.func36, Tryd.ntmps36
  go_upto_region 1 with fail
  rw [← hW0]
  replace hs0 := Lib.hid hs0
  clear hW0 hR B0 B1 z1
  generalize hn : w.heap.size = n at *
  have k0 := S0.cell 0; have k1 := S0.cell 1; have k2 := S0.cell 2; have k3 := S0.cell 3; have k4 := S0.cell 4; have k5 := S0.cell 5; have k6 := S0.cell 6; have k7 := S0.cell 7; have k8 := S0.cell 8; have k9 := S0.cell 9; have k10 := S0.cell 10
  go_wp2_with fail
  refine (rdsound_any vU d _ W0 (R0.rd (fun z hz => by have := hP z hz; have := hs0.out; omega)) (RVS.of _ _)).mono ?_
  rintro e w2 ⟨rfl, B2⟩
  have hn0 : n + 2 ≤ W0.heap.size := by have := hs0.out; omega
  have S0 := S0.nx B2
  have S1 := S1.nx B2
  have BB := BB.trans (B2.mono (by omega))
  have R0 : RDP w2 P d _ := R0.step (fun z hz => B2.block z (by have := hP z hz; omega)) (fun z hz => hz)
  clear k0 k1 k2 k3 k4 k5 k6 k7 k8 k9 k10
  obtain ⟨z, hz⟩ : ∃ z, Hid (d.sound vU = z) := ⟨_, rfl⟩
  rw [hz.out]
  cases z with
  | false =>
    go_wp2_with (refine wp_stD rfl rfl (.tmp 2) (.tmp 7) rfl (n + 1) rfl [.int .i64 0, .int .i64 0, .bool false, .slice none 0 0, .slice none 0 0, .bool false, .slice none 0 0, .slice none 0 0, .string { data := #[] }, .slice none 0 0, .slice none 0 0] rfl rfl _ S1 rfl (by simp [Value.oneCell']) ?_)
    have S2 := S1.cells [.int .i64 0, .int .i64 0, .bool false, .slice none 0 0, .slice none 0 0, .bool false, .slice none 0 0, .slice none 0 0, .string { data := #[] }, .slice none 0 0, .slice none 0 0] rfl
    have r0 := S2.cell 0; have r1 := S2.cell 1; have r2 := S2.cell 2; have r3 := S2.cell 3; have r4 := S2.cell 4; have r5 := S2.cell 5; have r6 := S2.cell 6; have r7 := S2.cell 7; have r8 := S2.cell 8; have r9 := S2.cell 9; have r10 := S2.cell 10
    refine bodyPost_ret (v := .tuple #[.agg #[.int .i64 0, .int .i64 0, .bool false, .slice none 0 0, .slice none 0 0, .bool false, .slice none 0 0, .slice none 0 0, .string { data := #[] }, .slice none 0 0, .slice none 0 0], .int .i64 4]) (by simp [results, r0, r1, r2, r3, r4, r5, r6, r7, r8, r9, r10, go_sem]) rfl ?_
    rw [(fit_no hz.out).1, (fit_no hz.out).2]
    try rw [hn]
    exact ⟨_, rfl, rd_zeroD _ _, below_cso BB (by omega) 0 [.int .i64 0, .int .i64 0, .bool false, .slice none 0 0, .slice none 0 0, .bool false, .slice none 0 0, .slice none 0 0, .string { data := #[] }, .slice none 0 0, .slice none 0 0]⟩
  | true =>
    have k0 := S0.cell 0; have k1 := S0.cell 1; have k2 := S0.cell 2; have k3 := S0.cell 3; have k4 := S0.cell 4; have k5 := S0.cell 5; have k6 := S0.cell 6; have k7 := S0.cell 7; have k8 := S0.cell 8; have k9 := S0.cell 9; have k10 := S0.cell 10
    go_wp2_with (refine wp_stD rfl rfl (.tmp 2) (.tmp 8) rfl (n + 1) rfl [y0, y1, y2, y3, y4, y5, y6, y7, y8, y9, y10] rfl rfl _ S1 rfl lo ?_)
    have S2 := S1.cells [y0, y1, y2, y3, y4, y5, y6, y7, y8, y9, y10] rfl
    clear k0 k1 k2 k3 k4 k5 k6 k7 k8 k9 k10
    have r0 := S2.cell 0; have r1 := S2.cell 1; have r2 := S2.cell 2; have r3 := S2.cell 3; have r4 := S2.cell 4; have r5 := S2.cell 5; have r6 := S2.cell 6; have r7 := S2.cell 7; have r8 := S2.cell 8; have r9 := S2.cell 9; have r10 := S2.cell 10
    refine bodyPost_ret (v := .tuple #[.agg #[y0, y1, y2, y3, y4, y5, y6, y7, y8, y9, y10], .int .i64 0]) (by simp [results, r0, r1, r2, r3, r4, r5, r6, r7, r8, r9, r10, go_sem]) rfl ?_
    rw [(fit_yes hz.out).1, (fit_yes hz.out).2]
    try rw [hn]
    exact ⟨_, rfl, R0.step (fun z hz => World.heap_setCells_other w2 (n + 1) 0 [y0, y1, y2, y3, y4, y5, y6, y7, y8, y9, y10] (by have := hP z hz; have := B2.size; omega) (by have := hP z hz; omega)) (fun z hz => .inl hz), below_cso BB (by omega) 0 [y0, y1, y2, y3, y4, y5, y6, y7, y8, y9, y10]⟩

/-- the list of data, or nothing -/
def ofD (l : List Dat) : Dat := fitD (joinD l nilD)
set_option maxRecDepth 100000 in
set_option maxHeartbeats 8000000 in
theorem lof_any (A : Option Addr) (c : Nat) (l : List Dat) (w : World) (P : Nat → Prop) (hP : ∀ b, P b → b < w.heap.size) (hL : RLs w P A c l) (hT : Tabs w) :
    Calls Tryd.prog 8 #[.slice A l.length c] w fun e w' => ∃ v', e = .returned v' ∧ RDP w' (Out P w.heap.size w') (ofD l) v' ∧ Below w.heap.size w w' := by
  have S1 := SB.new w [.int .i64 0, .int .i64 0, .bool false, .slice none 0 0, .slice none 0 0, .bool false, .slice none 0 0, .slice none 0 0, .string { data := #[] }, .slice none 0 0, .slice none 0 0] 31
  have BB := bal w (.cells #[.int .i64 0, .int .i64 0, .bool false, .slice none 0 0, .slice none 0 0, .bool false, .slice none 0 0, .slice none 0 0, .string { data := #[] }, .slice none 0 0, .slice none 0 0] 31)
  have hL0 : RLs _ P A c l := hL.step (fun z hz => BB.block z (hP z hz)) (fun z hz => hz)
  have hT0 : Tabs _ := Utf8Tabs_below hT BB
  obtain ⟨W0, hW0⟩ : ∃ W0, W0 = w.alloc (.cells #[.int .i64 0, .int .i64 0, .bool false, .slice none 0 0, .slice none 0 0, .bool false, .slice none 0 0, .slice none 0 0, .string { data := #[] }, .slice none 0 0, .slice none 0 0] 31) := ⟨_, rfl⟩
  have hN : w.heap.size + 1 ≤ W0.heap.size := by rw [hW0]; simp
  rw [← hW0] at S1 BB hL0 hT0
  have hbig := hL.2.1
  go_enter Tryd.func8, Tryd.ntmps8
  go_upto_region 1 with fail
  rw [← hW0]
  clear hW0 hL
  generalize hn : w.heap.size = n at *
  go_wp2_with fail
  refine (none_any W0).mono ?_
  rintro e w1 ⟨vn, rfl, Rn, B1⟩
  have S1 := S1.nx B1
  have hL0 := hL0.keeps hP (by omega) B1
  have hT0 : Tabs w1 := Utf8Tabs_below hT0 B1
  have BB := BB.trans (B1.mono (by omega))
  have hN := Nat.le_trans hN B1.size
  have Rn := Rn w1 P
  go_wp2_with fail
  refine (join_any A c l nilD vn w1 P (fun z hz => by have := hP z hz; omega) hL0 Rn).mono ?_
  rintro e w2 ⟨vj, rfl, Rj, B2⟩
  have Rj := Rj.from_ hN
  have S1 := S1.nx B2
  have hL0 := hL0.keeps hP (by omega) B2
  have hT0 : Tabs w2 := Utf8Tabs_below hT0 B2
  have BB := BB.trans (B2.mono (by omega))
  have hN := Nat.le_trans hN B2.size
  go_wp2_with fail
  refine (lfit_any _ vj w2 _ (Out.all hP (by omega)) Rj hT0).mono ?_
  rintro e w3 ⟨vf, rfl, Rf, B3⟩
  have Rf := Rf.res hN B3.size
  have S1 := S1.nx B3
  have hL0 := hL0.keeps hP (by omega) B3
  have hT0 : Tabs w3 := Utf8Tabs_below hT0 B3
  have BB := BB.trans (B3.mono (by omega))
  have hN := Nat.le_trans hN B3.size
  obtain ⟨cs, rfl, cl, co⟩ := Rf.agg
  match cs, cl, co with
  | [x0, x1, x2, x3, x4, x5, x6, x7, x8, x9, x10], _, co =>
  have Sg := SB.new w3 [.int .i64 0, .int .i64 0, .bool false, .slice none 0 0, .slice none 0 0, .bool false, .slice none 0 0, .slice none 0 0, .string { data := #[] }, .slice none 0 0, .slice none 0 0] 31
  obtain ⟨w4, hw4⟩ : ∃ w4, w4 = (w3.alloc (.cells #[.int .i64 0, .int .i64 0, .bool false, .slice none 0 0, .slice none 0 0, .bool false, .slice none 0 0, .slice none 0 0, .string { data := #[] }, .slice none 0 0, .slice none 0 0] 31)).setCells w3.heap.size 0 [x0, x1, x2, x3, x4, x5, x6, x7, x8, x9, x10] := ⟨_, rfl⟩
  have Bw4 : Below w3.heap.size w3 w4 := by rw [hw4]; exact below_cso (bal w3 _) (Nat.le_refl _) 0 [x0, x1, x2, x3, x4, x5, x6, x7, x8, x9, x10]
  have S4 : SB w4 w3.heap.size [x0, x1, x2, x3, x4, x5, x6, x7, x8, x9, x10] := by rw [hw4]; exact Sg.cells [x0, x1, x2, x3, x4, x5, x6, x7, x8, x9, x10] rfl
  have hgw3 : n + 1 ≤ w3.heap.size := hN
  replace hw4 := Lib.hid hw4
  obtain ⟨z, hz⟩ : ∃ z, Hid (fitE (joinD l nilD) = z) := ⟨_, rfl⟩
  rw [hz.out]
  go_upto_region 2 with (refine wp_stD rfl rfl (.tmp 3) (.tmp 10) rfl w3.heap.size rfl [x0, x1, x2, x3, x4, x5, x6, x7, x8, x9, x10] rfl rfl _ Sg rfl co ?_; rw [← hw4.out]; clear hw4)
  clear Sg
  have S1 := S1.nx Bw4
  have hL0 := hL0.keeps hP (by omega) Bw4
  have hT0 : Tabs w4 := Utf8Tabs_below hT0 Bw4
  have BB := BB.trans (Bw4.mono (by omega))
  have Rf := Rf.go hP (by omega) Bw4
  have hN := Nat.le_trans hN Bw4.size
  cases hs : (joinD l nilD).sound vU with
  | false =>
    obtain rfl : 4 = z := (fit_no hs).2.symm.trans hz.out
    go_wp2_with (refine wp_stD rfl rfl (.tmp 2) (.tmp 14) rfl (n) rfl [.int .i64 0, .int .i64 0, .bool false, .slice none 0 0, .slice none 0 0, .bool false, .slice none 0 0, .slice none 0 0, .string { data := #[] }, .slice none 0 0, .slice none 0 0] rfl rfl _ S1 rfl (by simp [Value.oneCell']) ?_)
    have S2 := S1.cells [.int .i64 0, .int .i64 0, .bool false, .slice none 0 0, .slice none 0 0, .bool false, .slice none 0 0, .slice none 0 0, .string { data := #[] }, .slice none 0 0, .slice none 0 0] rfl
    have r0 := S2.cell 0; have r1 := S2.cell 1; have r2 := S2.cell 2; have r3 := S2.cell 3; have r4 := S2.cell 4; have r5 := S2.cell 5; have r6 := S2.cell 6; have r7 := S2.cell 7; have r8 := S2.cell 8; have r9 := S2.cell 9; have r10 := S2.cell 10
    refine bodyPost_ret (v := .agg #[.int .i64 0, .int .i64 0, .bool false, .slice none 0 0, .slice none 0 0, .bool false, .slice none 0 0, .slice none 0 0, .string { data := #[] }, .slice none 0 0, .slice none 0 0]) (by simp [results, r0, r1, r2, r3, r4, r5, r6, r7, r8, r9, r10, go_sem]) rfl ?_
    unfold ofD
    rw [(fit_no hs).1]
    try rw [hn]
    exact ⟨_, rfl, rd_zeroD _ _, below_cso BB (Nat.le_refl _) 0 [.int .i64 0, .int .i64 0, .bool false, .slice none 0 0, .slice none 0 0, .bool false, .slice none 0 0, .slice none 0 0, .string { data := #[] }, .slice none 0 0, .slice none 0 0]⟩
  | true =>
    obtain rfl : 0 = z := (fit_yes hs).2.symm.trans hz.out
    have k0 := S4.cell 0; have k1 := S4.cell 1; have k2 := S4.cell 2; have k3 := S4.cell 3; have k4 := S4.cell 4; have k5 := S4.cell 5; have k6 := S4.cell 6; have k7 := S4.cell 7; have k8 := S4.cell 8; have k9 := S4.cell 9; have k10 := S4.cell 10
    go_upto_region 4 with fail
    go_wp2_with (refine wp_stD rfl rfl (.tmp 2) (.tmp 15) rfl (n) rfl [x0, x1, x2, x3, x4, x5, x6, x7, x8, x9, x10] rfl rfl _ S1 rfl co ?_)
    have S2 := S1.cells [x0, x1, x2, x3, x4, x5, x6, x7, x8, x9, x10] rfl
    clear k0 k1 k2 k3 k4 k5 k6 k7 k8 k9 k10
    have r0 := S2.cell 0; have r1 := S2.cell 1; have r2 := S2.cell 2; have r3 := S2.cell 3; have r4 := S2.cell 4; have r5 := S2.cell 5; have r6 := S2.cell 6; have r7 := S2.cell 7; have r8 := S2.cell 8; have r9 := S2.cell 9; have r10 := S2.cell 10
    refine bodyPost_ret (v := .agg #[x0, x1, x2, x3, x4, x5, x6, x7, x8, x9, x10]) (by simp [results, r0, r1, r2, r3, r4, r5, r6, r7, r8, r9, r10, go_sem]) rfl ?_
    try rw [hn]
    unfold ofD
    exact ⟨_, rfl, (Rf.scO hP (by omega) (g := n) (Nat.le_refl _) (Nat.lt_succ_self _) 0 [x0, x1, x2, x3, x4, x5, x6, x7, x8, x9, x10]).from_ (Nat.le_succ _), below_cso BB (Nat.le_refl _) 0 [x0, x1, x2, x3, x4, x5, x6, x7, x8, x9, x10]⟩

set_option maxRecDepth 100000 in
set_option maxHeartbeats 8000000 in
theorem rlof_any (A : Option Addr) (c : Nat) (l : List Dat) (w : World) (P : Nat → Prop) (hP : ∀ b, P b → b < w.heap.size) (hL : RLs w P A c l) :
    Calls Tryd.prog 18 #[.slice A l.length c] w fun e w' => ∃ v', e = .returned v' ∧ RDP w' (Out P w.heap.size w') (ofD l) v' ∧ Below w.heap.size w w' := by
  have S1 := SB.new w [.int .i64 0, .int .i64 0, .bool false, .slice none 0 0, .slice none 0 0, .bool false, .slice none 0 0, .slice none 0 0, .string { data := #[] }, .slice none 0 0, .slice none 0 0] 31
  have BB := bal w (.cells #[.int .i64 0, .int .i64 0, .bool false, .slice none 0 0, .slice none 0 0, .bool false, .slice none 0 0, .slice none 0 0, .string { data := #[] }, .slice none 0 0, .slice none 0 0] 31)
  have hL0 : RLs _ P A c l := hL.step (fun z hz => BB.block z (hP z hz)) (fun z hz => hz)
  obtain ⟨W0, hW0⟩ : ∃ W0, W0 = w.alloc (.cells #[.int .i64 0, .int .i64 0, .bool false, .slice none 0 0, .slice none 0 0, .bool false, .slice none 0 0, .slice none 0 0, .string { data := #[] }, .slice none 0 0, .slice none 0 0] 31) := ⟨_, rfl⟩
  have hN : w.heap.size + 1 ≤ W0.heap.size := by rw [hW0]; simp
  rw [← hW0] at S1 BB hL0
  have hbig := hL.2.1
  go_enter Tryd.func18, Tryd.ntmps18
  go_upto_region 1 with fail
  rw [← hW0]
  clear hW0 hL
  generalize hn : w.heap.size = n at *
  go_wp2_with fail
  refine (rNil_any W0).mono ?_
  rintro e w1 ⟨vn, rfl, Rn, B1⟩
  have S1 := S1.nx B1
  have hL0 := hL0.keeps hP (by omega) B1
  have BB := BB.trans (B1.mono (by omega))
  have hN := Nat.le_trans hN B1.size
  have Rn := Rn w1 P
  go_wp2_with fail
  refine (rList_any A c l nilD vn w1 P (fun z hz => by have := hP z hz; omega) hL0 Rn).mono ?_
  rintro e w2 ⟨vj, rfl, Rf, B2⟩
  have Rf := Rf.from_ hN
  have S1 := S1.nx B2
  have hL0 := hL0.keeps hP (by omega) B2
  have BB := BB.trans (B2.mono (by omega))
  have hN := Nat.le_trans hN B2.size
  obtain ⟨cs, rfl, cl, co⟩ := Rf.agg
  match cs, cl, co with
  | [x0, x1, x2, x3, x4, x5, x6, x7, x8, x9, x10], _, co =>
  have Sg := SB.new w2 [.int .i64 0, .int .i64 0, .bool false, .slice none 0 0, .slice none 0 0, .bool false, .slice none 0 0, .slice none 0 0, .string { data := #[] }, .slice none 0 0, .slice none 0 0] 31
  obtain ⟨w4, hw4⟩ : ∃ w4, w4 = (w2.alloc (.cells #[.int .i64 0, .int .i64 0, .bool false, .slice none 0 0, .slice none 0 0, .bool false, .slice none 0 0, .slice none 0 0, .string { data := #[] }, .slice none 0 0, .slice none 0 0] 31)).setCells w2.heap.size 0 [x0, x1, x2, x3, x4, x5, x6, x7, x8, x9, x10] := ⟨_, rfl⟩
  have Bw4 : Below w2.heap.size w2 w4 := by rw [hw4]; exact below_cso (bal w2 _) (Nat.le_refl _) 0 [x0, x1, x2, x3, x4, x5, x6, x7, x8, x9, x10]
  have S4 : SB w4 w2.heap.size [x0, x1, x2, x3, x4, x5, x6, x7, x8, x9, x10] := by rw [hw4]; exact Sg.cells [x0, x1, x2, x3, x4, x5, x6, x7, x8, x9, x10] rfl
  have hgw2 : n + 1 ≤ w2.heap.size := hN
  replace hw4 := Lib.hid hw4
  go_upto_region 2 with (refine wp_stD rfl rfl (.tmp 3) (.tmp 6) rfl w2.heap.size rfl [x0, x1, x2, x3, x4, x5, x6, x7, x8, x9, x10] rfl rfl _ Sg rfl co ?_; rw [← hw4.out]; clear hw4)
  clear Sg
  have S1 := S1.nx Bw4
  have hL0 := hL0.keeps hP (by omega) Bw4
  have BB := BB.trans (Bw4.mono (by omega))
  have Rf := Rf.go hP (by omega) Bw4
  have hN := Nat.le_trans hN Bw4.size
  have k0 := S4.cell 0; have k1 := S4.cell 1; have k2 := S4.cell 2; have k3 := S4.cell 3; have k4 := S4.cell 4; have k5 := S4.cell 5; have k6 := S4.cell 6; have k7 := S4.cell 7; have k8 := S4.cell 8; have k9 := S4.cell 9; have k10 := S4.cell 10
  go_wp2_with fail
  refine (rdsound_any vU (joinD l nilD) _ w4 (Rf.rd (fun z hz => hz.lt hP (by omega))) (RVS.of _ _)).mono ?_
  rintro e w5 ⟨rfl, B5⟩
  clear k0 k1 k2 k3 k4 k5 k6 k7 k8 k9 k10
  have S1 := S1.nx B5
  have hL0 := hL0.keeps hP (by omega) B5
  have BB := BB.trans (B5.mono (by omega))
  have Rf := Rf.go hP (by omega) B5
  have S4 := S4.nx B5
  have hN := Nat.le_trans hN B5.size
  cases hs : (joinD l nilD).sound vU with
  | false =>
    go_wp2_with (refine wp_stD rfl rfl (.tmp 2) (.tmp 10) rfl (n) rfl [.int .i64 0, .int .i64 0, .bool false, .slice none 0 0, .slice none 0 0, .bool false, .slice none 0 0, .slice none 0 0, .string { data := #[] }, .slice none 0 0, .slice none 0 0] rfl rfl _ S1 rfl (by simp [Value.oneCell']) ?_)
    have S2 := S1.cells [.int .i64 0, .int .i64 0, .bool false, .slice none 0 0, .slice none 0 0, .bool false, .slice none 0 0, .slice none 0 0, .string { data := #[] }, .slice none 0 0, .slice none 0 0] rfl
    have r0 := S2.cell 0; have r1 := S2.cell 1; have r2 := S2.cell 2; have r3 := S2.cell 3; have r4 := S2.cell 4; have r5 := S2.cell 5; have r6 := S2.cell 6; have r7 := S2.cell 7; have r8 := S2.cell 8; have r9 := S2.cell 9; have r10 := S2.cell 10
    refine bodyPost_ret (v := .agg #[.int .i64 0, .int .i64 0, .bool false, .slice none 0 0, .slice none 0 0, .bool false, .slice none 0 0, .slice none 0 0, .string { data := #[] }, .slice none 0 0, .slice none 0 0]) (by simp [results, r0, r1, r2, r3, r4, r5, r6, r7, r8, r9, r10, go_sem]) rfl ?_
    unfold ofD
    rw [(fit_no hs).1]
    try rw [hn]
    exact ⟨_, rfl, rd_zeroD _ _, below_cso BB (Nat.le_refl _) 0 [.int .i64 0, .int .i64 0, .bool false, .slice none 0 0, .slice none 0 0, .bool false, .slice none 0 0, .slice none 0 0, .string { data := #[] }, .slice none 0 0, .slice none 0 0]⟩
  | true =>
    have k0 := S4.cell 0; have k1 := S4.cell 1; have k2 := S4.cell 2; have k3 := S4.cell 3; have k4 := S4.cell 4; have k5 := S4.cell 5; have k6 := S4.cell 6; have k7 := S4.cell 7; have k8 := S4.cell 8; have k9 := S4.cell 9; have k10 := S4.cell 10
    go_upto_region 4 with fail
    go_wp2_with (refine wp_stD rfl rfl (.tmp 2) (.tmp 11) rfl (n) rfl [x0, x1, x2, x3, x4, x5, x6, x7, x8, x9, x10] rfl rfl _ S1 rfl co ?_)
    have S2 := S1.cells [x0, x1, x2, x3, x4, x5, x6, x7, x8, x9, x10] rfl
    clear k0 k1 k2 k3 k4 k5 k6 k7 k8 k9 k10
    have r0 := S2.cell 0; have r1 := S2.cell 1; have r2 := S2.cell 2; have r3 := S2.cell 3; have r4 := S2.cell 4; have r5 := S2.cell 5; have r6 := S2.cell 6; have r7 := S2.cell 7; have r8 := S2.cell 8; have r9 := S2.cell 9; have r10 := S2.cell 10
    refine bodyPost_ret (v := .agg #[x0, x1, x2, x3, x4, x5, x6, x7, x8, x9, x10]) (by simp [results, r0, r1, r2, r3, r4, r5, r6, r7, r8, r9, r10, go_sem]) rfl ?_
    unfold ofD
    rw [(fit_yes hs).1]
    try rw [hn]
    exact ⟨_, rfl, (Rf.scO hP (by omega) (g := n) (Nat.le_refl _) (Nat.lt_succ_self _) 0 [x0, x1, x2, x3, x4, x5, x6, x7, x8, x9, x10]).from_ (Nat.le_succ _), below_cso BB (Nat.le_refl _) 0 [x0, x1, x2, x3, x4, x5, x6, x7, x8, x9, x10]⟩

end Go.Proofs.YtilhnjecnhpmlaaDoor
namespace Go.Proofs.YtilhnjecnhpmlaaDoor
open Go.RowKit

/-- a datum's eleven cells -/
abbrev C11 := { cs : List Value // cs.length = 11 ∧ ∀ u ∈ cs, u.oneCell' = true }
abbrev OD (w : World) (base : Nat) (A : Option Addr) (c : Nat) (ls : List C11) : Prop := OK 31 11 Subtype.val w base A c ls
/-- a row of the call's own: data whose parts lie in Q -/
def ROw (w : World) (base : Nat) (Q : Nat → Prop) (A : Option Addr) (c : Nat) (l : List Dat) : Prop :=
  ∃ ls : List C11, OD w base A c ls ∧ ls.length = l.length ∧ ∀ (i : Nat) (x : Dat), l[i]? = some x → ∃ cs : C11, ls[i]? = some cs ∧ RDP w Q x (.agg cs.1.toArray)
/-- append of one datum -/
theorem wp_appD (w : World) {ops : Array Oper} {rest : List Oper} {o : Oper} {a : Act} {Q : Exit → Act → World → Prop}
    (hg : o.guard = none) (s x : Operand) (hop : o.op = Op.call { callee := Callee.builtin Builtin.append, args := #[s, x], argTypes := #[22, 22] })
    (base : Nat) (A : Option Addr) (c n : Nat) (l : List C11) (hs : a.eval s = .slice A n c) (hn : n = l.length) (hown : OD w base A c l)
    (b d : Nat) (r : C11) (hx : a.eval x = .slice (some ⟨b, 0, none⟩) 1 d) (hr : ∀ j u, r.1[j]? = some u → w.cell? ⟨b, j, none⟩ = some u)
    (hlen : l.length ≤ 2000000) (hbase : base ≤ w.heap.size)
    (hK : ∀ A' c' w', OD w' base A' c' (l ++ [r]) → Below base w w' → wpList Tryd.prog ops Q rest (a.put o.dst (.slice A' (l.length + 1) c')) w') :
    wpList Tryd.prog ops Q (o :: rest) a w :=
  wp_app1 w 22 31 11 Subtype.val (.agg #[.int .i64 0, .int .i64 0, .bool false, .slice none 0 0, .slice none 0 0, .bool false, .slice none 0 0, .slice none 0 0, .string { data := #[] }, .slice none 0 0, .slice none 0 0]) 192 Tryd.underlying22 infoDf rfl (by decide) (fun x => x.2.1)
    (fun x u hu => x.2.2 u hu) hg s x hop base A c n l hs hn hown b d r hx hr (by omega) (by omega) hbase
    fun A' c' w' h1 h2 => hK A' c' w' h1 ((Below.refl _ _).grown h2 hbase (by
      intro k hk
      rcases hown.form with ⟨rfl, _⟩ | ⟨g, rfl, hb, _⟩
      · simp [Value.ownBlock] at hk
      · simp [Value.ownBlock] at hk; omega))
section
variable {P Q : Nat → Prop} {n m base B : Nat} {w w' w2 : World} {l : List Dat} {A : Option Addr} {c : Nat} {vs : List Value}
theorem SB.lo {b : Nat} (h : SB w b vs) (hb : Below B w w') (hlt : b < B) : SB w' b vs :=
  ⟨fun i v hv => ⟨(hb.cell (p := ⟨b, i, none⟩) hlt).trans (h.1 i v hv).1, (hb.frozen (p := ⟨b, i, none⟩) hlt).trans (h.1 i v hv).2⟩, Nat.lt_of_lt_of_le h.2 hb.size⟩
theorem ROw.nil (w : World) (base : Nat) (Q : Nat → Prop) : ROw w base Q none 0 [] := ⟨[], OK.nil _ _ _ _ _, rfl, fun i x h => by cases h⟩
theorem ROw.empty (w : World) (Q : Nat → Prop) : ROw (w.alloc (.cells #[] 31)) w.heap.size Q (some ⟨w.heap.size, 0, none⟩) 0 [] := ⟨[], OK.empty _ _ _ _, rfl, fun i x h => by cases h⟩
theorem ROw.below (h : ROw w base P A c l) (hP : ∀ b, P b → b < w.heap.size) (hb : Below w.heap.size w w') : ROw w' base P A c l := by
  obtain ⟨ls, h1, h2, h3⟩ := h
  refine ⟨ls, h1.below hb (Nat.le_refl _), h2, fun i x hx => ?_⟩
  obtain ⟨cs, e, h4⟩ := h3 i x hx
  exact ⟨cs, e, h4.keep hP hb⟩
theorem ROw.drew (h : ROw w base P A c l) (q : Nat) : ROw (w.drewN q) base P A c l := by
  obtain ⟨ls, h1, h2, h3⟩ := h
  refine ⟨ls, h1.drewN q, h2, fun i x hx => ?_⟩
  obtain ⟨cs, e, h4⟩ := h3 i x hx
  have h5 : ∀ b, P b → (w.drewN q).heap[b]? = w.heap[b]? := fun _ _ => rfl
  exact ⟨cs, e, h4.step h5 (fun _ h => h)⟩
theorem ROw.sc {g : Nat} (h : ROw w base P A c l) (hP : ∀ b, P b → b < n) (hn : n ≤ w.heap.size) (h1 : n ≤ g) (h2 : g < base) (o : Nat) (cs : List Value) : ROw (w.setCells g o cs) base P A c l := by
  obtain ⟨ls, h3, h4, h5⟩ := h
  refine ⟨ls, h3.kept fun k hk => ?_, h4, fun i x hx => ?_⟩
  · subst hk
    have := h3.lt
    exact World.heap_setCells_other w g o cs this.2 (by omega)
  · obtain ⟨cs', e, h6⟩ := h5 i x hx
    exact ⟨cs', e, h6.scP hP hn h1 o cs⟩
theorem ROw.base_le (h : ROw w base P A c l) (hb : B ≤ base) : ROw w B P A c l := by
  obtain ⟨ls, h1, h2⟩ := h
  exact ⟨ls, h1.base_le hb, h2⟩
theorem ROw.push {ls : List C11} {r : C11} {x : Dat} (h1 : OD w base A c (ls ++ [r])) (h2 : ls.length = l.length) (h3 : ∀ (i : Nat) (x : Dat), l[i]? = some x → ∃ cs : C11, ls[i]? = some cs ∧ RDP w P x (.agg cs.1.toArray)) (h4 : RDP w P x (.agg r.1.toArray)) : ROw w base P A c (l ++ [x]) := by
  refine ⟨ls ++ [r], h1, by simp [h2], fun i y hy => ?_⟩
  by_cases hi : i < l.length
  · rw [List.getElem?_append_left hi] at hy
    rw [List.getElem?_append_left (by omega)]
    exact h3 i y hy
  · rw [List.getElem?_append_right (by omega)] at hy
    have hi2 : i - l.length = 0 := by
      have := (List.getElem?_eq_some_iff.1 hy).1
      simp only [List.length_cons, List.length_nil] at this; omega
    rw [hi2] at hy
    obtain rfl : x = y := by simpa using hy
    rw [List.getElem?_append_right (by omega), show i - ls.length = 0 by omega]
    exact ⟨r, rfl, h4⟩
theorem ROw.len (h : ROw w base P A c l) : l.length ≤ c := by
  obtain ⟨ls, h1, h2, -⟩ := h
  rw [← h2]; exact h1.lc
/-- it reads as a list -/
theorem ROw.rls (h : ROw w base P A c l) (hl : l.length ≤ 35184372088832) : RLs w (Out P base w) A c l := by
  refine ⟨h.len, hl, fun h0 => ?_⟩
  obtain ⟨ls, h1, h2, h3⟩ := h
  rcases h1.form with ⟨_, _, rfl⟩ | ⟨g, rfl, hb, hg, _⟩
  · simp at h2; omega
  · refine ⟨g, 0, rfl, .inr ⟨hb, hg⟩, RDPs.of l 0 fun i x hx => ?_⟩
    obtain ⟨cs, e, h4⟩ := h3 i x hx
    exact ⟨cs.1, cs.2.1, h4.out base, fun j u hj => by rw [Nat.zero_add]; exact h1.cells (fun x => x.2.1) e j u hj⟩
theorem RDP.head {d : Dat} {cs : List Value} (h : RDP w P d (.agg cs.toArray)) : ∃ y1 y2 y3 y4 y5 y6 y7 y8 y9 y10, cs = [.int .i64 d.k, y1, y2, y3, y4, y5, y6, y7, y8, y9, y10] ∧ (∀ u ∈ cs, u.oneCell' = true) := by
  obtain ⟨_, e2, _, ho⟩ := h.agg
  obtain rfl := congrArg Array.toList (Value.agg.inj e2)
  refine (fun ho => ?_) ho
  cases d
  rw [RDP] at h
  obtain ⟨A1, c1, D1, d1, A2, c2, D2, d2, R, rc, L, lc, e, -⟩ := h
  have e := congrArg Array.toList (Value.agg.inj e)
  exact ⟨_, _, _, _, _, _, _, _, _, _, e, ho⟩
theorem pairD_view {v : Value} {x y : Dat} (h : RDP w P (pairD x y) v) : ∃ A1 c1 D1 d1 A2 c2 D2 d2 R rc b off lc,
    v = .agg #[.int .i64 8, .int .i64 0, .bool false, .slice A1 0 c1, .slice D1 0 d1, .bool false, .slice A2 0 c2, .slice D2 0 d2, .string ByteArray.empty, .slice R 0 rc, .slice (some ⟨b, off, none⟩) 2 lc] ∧ P b ∧ 2 ≤ lc ∧
    ∃ cx cy : List Value, cx.length = 11 ∧ cy.length = 11 ∧ (∀ u ∈ cx, u.oneCell' = true) ∧ RDP w P x (.agg cx.toArray) ∧ RDP w P y (.agg cy.toArray) ∧ w.rangeAt b off cx ∧ w.rangeAt b (off + 11) cy := by
  unfold pairD at h
  rw [RDP] at h
  obtain ⟨A1, c1, D1, d1, A2, c2, D2, d2, R, rc, L, lc, e, _, _, hl, hd⟩ := h
  obtain ⟨b, off, rfl, hPb, hs⟩ := hd (show 0 < 2 by decide)
  obtain ⟨vx, rx, kx⟩ := hs.get (i := 0) rfl
  obtain ⟨vy, ry, ky⟩ := hs.get (i := 1) rfl
  obtain ⟨cx, rfl, lx, ox⟩ := rx.agg
  obtain ⟨cy, rfl, ly, oy⟩ := ry.agg
  refine ⟨A1, c1, D1, d1, A2, c2, D2, d2, R, rc, b, off, lc, e, hPb, hl.1, cx, cy, lx, ly, ox, rx, ry, fun j u hj => ?_, fun j u hj => ?_⟩
  · have := kx _ rfl j u (by simpa using hj); simpa using this
  · have := ky _ rfl j u (by simpa using hj); simpa using this
end

/-- a row of data that may be written: element i lies at o + 11 i of block g, its parts in Q -/
def RowM (w : World) (Q : Nat → Prop) (g o : Nat) (l : List Dat) : Prop :=
  ∀ (i : Nat) (x : Dat), l[i]? = some x → ∃ cs : List Value, cs.length = 11 ∧ SO w g (o + i * 11) cs ∧ RDP w Q x (.agg cs.toArray)
section
variable {P Q : Nat → Prop} {n base g o : Nat} {w w' : World} {l : List Dat} {A : Option Addr} {c : Nat}
theorem ROw.mut (h : ROw w base Q A c l) (h0 : 0 < l.length) : ∃ g, A = some ⟨g, 0, none⟩ ∧ base ≤ g ∧ g < w.heap.size ∧ RowM w Q g 0 l := by
  obtain ⟨ls, h1, h2, h3⟩ := h
  rcases h1.form with ⟨_, _, rfl⟩ | ⟨g, rfl, hb, hg, _⟩
  · simp at h2; omega
  · refine ⟨g, rfl, hb, hg, fun i x hx => ?_⟩
    obtain ⟨cs, e, h4⟩ := h3 i x hx
    refine ⟨cs.1, cs.2.1, ⟨fun j v hv => ?_, hg⟩, h4⟩
    rw [Nat.zero_add]
    exact ⟨h1.cells (fun x => x.2.1) e j v hv, World.ownsRow.frozenAt h1 _⟩
theorem RowM.rls (h : RowM w Q g o l) (hl : l.length ≤ c) (hb : l.length ≤ 35184372088832) (hQ : ∀ b, Q b → P b) (hg : 0 < l.length → P g) : RLs w P (some ⟨g, o, none⟩) c l :=
  ⟨hl, hb, fun h0 => ⟨g, o, rfl, hg h0, RDPs.of l o fun i x hx => by
    obtain ⟨cs, h1, h2, h3⟩ := h i x hx
    exact ⟨cs, h1, h3.step (fun _ _ => rfl) hQ, h2.range⟩⟩⟩
theorem RowM.drop (h : RowM w Q g o l) (k : Nat) : RowM w Q g (o + k * 11) (l.drop k) := fun i x hx => by
  rw [List.getElem?_drop] at hx
  obtain ⟨cs, h1, h2, h3⟩ := h _ x hx
  exact ⟨cs, h1, by rw [show o + k * 11 + i * 11 = o + (k + i) * 11 by rw [Nat.add_mul]; omega]; exact h2, h3⟩
theorem RowM.take (h : RowM w Q g o l) (k : Nat) : RowM w Q g o (l.take k) := fun i x hx => by
  rw [List.getElem?_take] at hx
  split at hx
  · exact h i x hx
  · cases hx
theorem RowM.keep (h : RowM w Q g o l) (hQ : ∀ b, Q b → b < w.heap.size) (hb : Below w.heap.size w w') : RowM w' Q g o l := fun i x hx => by
  obtain ⟨cs, h1, h2, h3⟩ := h i x hx
  exact ⟨cs, h1, h2.nx hb, h3.keep hQ hb⟩
theorem RowM.more (h : RowM w Q g o l) (hQ : ∀ b, Q b → P b) : RowM w P g o l := fun i x hx => by
  obtain ⟨cs, h1, h2, h3⟩ := h i x hx
  exact ⟨cs, h1, h2, h3.step (fun _ _ => rfl) hQ⟩
/-- another block is written -/
theorem RowM.far {q : Nat} (h : RowM w Q g o l) (hQ : ∀ b, Q b → b < w.heap.size ∧ b ≠ q) (hg : g ≠ q) (k : Nat) (cs : List Value) : RowM (w.setCells q k cs) Q g o l := fun i x hx => by
  obtain ⟨ds, h1, h2, h3⟩ := h i x hx
  exact ⟨ds, h1, h2.scs hg k cs, h3.step (fun b hz => World.heap_setCells_other w q k cs (hQ b hz).1 (hQ b hz).2) (fun _ h => h)⟩
/-- an element is written -/
theorem RowM.set (h : RowM w Q g o l) (hQ : ∀ b, Q b → b < w.heap.size ∧ b ≠ g) {i : Nat} (hi : i < l.length) {y : Dat} {cs : List Value} (hl : cs.length = 11) (hy : RDP w Q y (.agg cs.toArray)) : RowM (w.setCells g (o + i * 11) cs) Q g o (l.set i y) := fun k x hx => by
  have hs : ∀ d v, RDP w Q d v → RDP (w.setCells g (o + i * 11) cs) Q d v := fun d v h => h.step (fun b hz => World.heap_setCells_other w g _ cs (hQ b hz).1 (hQ b hz).2) (fun _ h => h)
  rw [List.getElem?_set] at hx
  split at hx
  · rename_i e; subst e
    try rw [if_pos hi] at hx
    injection hx with hx; subst hx
    obtain ⟨ds, h1, h2, h3⟩ := h i _ (List.getElem?_eq_getElem hi)
    have := h2.sets 0 cs (by omega)
    rw [Nat.add_zero, hl] at this
    refine ⟨cs, hl, ?_, hs _ _ hy⟩
    rw [List.take_zero, List.nil_append, Nat.zero_add, List.drop_eq_nil_of_le (by omega), List.append_nil] at this
    exact this
  · rename_i e
    obtain ⟨ds, h1, h2, h3⟩ := h k x hx
    refine ⟨ds, h1, ⟨fun j v hv => ?_, by rw [size_sc]; exact h2.2⟩, hs _ _ h3⟩
    have hj := (List.getElem?_eq_some_iff.1 hv).1
    obtain ⟨h4, h5⟩ := h2.1 j v hv
    refine ⟨(World.cell?_setCells_out g cs (o + i * 11) w ⟨g, o + k * 11 + j, none⟩ (fun _ _ => ?_)).trans h4, (World.frozen?_setCells g cs _ w _).trans h5⟩
    show o + k * 11 + j < o + i * 11 ∨ o + i * 11 + cs.length ≤ o + k * 11 + j
    rcases Nat.lt_or_gt_of_ne e with h | h
    · have := Nat.mul_le_mul_right 11 (show i + 1 ≤ k from h); right; omega
    · have := Nat.mul_le_mul_right 11 (show k + 1 ≤ i from h); left; omega
theorem RowM.at_ (h : RowM w Q g o l) {i : Nat} (hi : i < l.length) : ∃ cs : List Value, cs.length = 11 ∧ SO w g (o + i * 11) cs ∧ RDP w Q l[i] (.agg cs.toArray) := h i _ (List.getElem?_eq_getElem hi)
/-- blocks handed in, and those behind n, but g -/
def QO (P : Nat → Prop) (n g : Nat) (w : World) (b : Nat) : Prop := Out P n w b ∧ b ≠ g
theorem QO.lt {b : Nat} (h : QO P n g w b) {k : Nat} (hP : ∀ b, P b → b < k) (hk : k ≤ w.heap.size) : b < w.heap.size ∧ b ≠ g := ⟨h.1.lt hP hk, h.2⟩
theorem RowM.go {k : Nat} (h : RowM w (QO P n g w) g o l) (hP : ∀ b, P b → b < k) (hk : k ≤ w.heap.size) (hb : Below w.heap.size w w') : RowM w' (QO P n g w') g o l :=
  (h.keep (fun _ hb => (hb.lt hP hk).1) hb).more fun _ hz => ⟨hz.1.up (Nat.le_refl _) hb.size, hz.2⟩
theorem ROw.mut' (h : ROw w base Q A c l) : ∃ g, base ≤ g ∧ (0 < l.length → A = some ⟨g, 0, none⟩ ∧ g < w.heap.size) ∧ RowM w Q g 0 l := by
  by_cases h0 : 0 < l.length
  · obtain ⟨g, h1, h2, h3, h4⟩ := h.mut h0
    exact ⟨g, h2, fun _ => ⟨h1, h3⟩, h4⟩
  · obtain rfl : l = [] := List.eq_nil_of_length_eq_zero (by omega)
    exact ⟨base, Nat.le_refl _, fun h => absurd h h0, fun i x h => by cases h⟩
theorem RowM.rls' {o : Nat} (h : RowM w Q g o l) (hl : l.length ≤ c) (hb : l.length ≤ 35184372088832) (hA : 0 < l.length → A = some ⟨g, o, none⟩) (hQ : ∀ b, Q b → P b) (hg : 0 < l.length → P g) : RLs w P A c l :=
  ⟨hl, hb, fun h0 => by rw [hA h0]; exact (RowM.rls (c := c) h hl hb hQ hg).2.2 h0⟩
theorem RowM.nil (w : World) (Q : Nat → Prop) (g o : Nat) : RowM w Q g o [] := fun i x h => by cases h
end
end Go.Proofs.YtilhnjecnhpmlaaDoor
namespace Go.Proofs.YtilhnjecnhpmlaaDoor
open Go.RowKit

set_option maxRecDepth 100000 in
set_option maxHeartbeats 8000000 in
theorem litems_any (l : List Dat) (last : Dat) (hk : last.k ≠ 8) (hlen : l.length ≤ 1000000) (v : Value) (w : World) (P : Nat → Prop) (hP : ∀ b, P b → b < w.heap.size) (hR : RDP w P (joinD l last) v) :
    Calls Tryd.prog 29 #[v] w fun e w' => ∃ A c, e = .returned (.tuple #[.slice A l.length c, .bool (last.k == 1)]) ∧ ROw w' (w.heap.size + 1) P A c l ∧ Below w.heap.size w w' := by
  obtain ⟨ls, rfl, ll, lo⟩ := hR.agg
  match ls, ll, lo with
  | [y0, y1, y2, y3, y4, y5, y6, y7, y8, y9, y10], _, lo =>
  have S0 := SB.new w [y0, y1, y2, y3, y4, y5, y6, y7, y8, y9, y10] 31
  have BB := bal w (.cells #[y0, y1, y2, y3, y4, y5, y6, y7, y8, y9, y10] 31)
  have R0 : RDP _ P (joinD l last) _ := hR.step (fun z hz => BB.block z (hP z hz)) (fun z hz => hz)
  obtain ⟨W0, hW0⟩ : ∃ W0, W0 = w.alloc (.cells #[y0, y1, y2, y3, y4, y5, y6, y7, y8, y9, y10] 31) := ⟨_, rfl⟩
  have hN : w.heap.size + 1 ≤ W0.heap.size := by rw [hW0]; simp
  rw [← hW0] at S0 BB R0
  go_enter Tryd.func29, Tryd.ntmps29
  go_upto_region 1 with fail
  rw [← hW0]
  clear hW0 hR
  generalize hn : w.heap.size = n at *
  have O0 := ROw.nil W0 (n + 1) P
  go_loopg [2] l.length (fun gk s2 wx => ∃ (l1 l2 : List Dat) (A : Option Addr) (c : Nat) (cs : List Value), l = l1 ++ l2 ∧ l2.length = gk ∧ s2 = .slice A l1.length c ∧ ROw wx (n + 1) P A c l1 ∧ cs.length = 11 ∧ SB wx n cs ∧ RDP wx P (joinD l2 last) (.agg cs.toArray) ∧ Below n w wx ∧ n + 1 ≤ wx.heap.size)
  case atStart => exact ⟨[], l, _, _, _, rfl, rfl, rfl, O0, rfl, S0, R0, BB, hN⟩
  case round =>
    obtain ⟨l1, l2, A, c, cs, hl, hgk, rfl, O1, cl, S1, R1, B1, hN1⟩ := hrel
    clear S0 R0 BB hN O0
    cases l2 with
    | nil =>
      have hk0 : (last.k == 8) = false := by simpa using hk
      have R1 : RDP wr P last (.agg cs.toArray) := R1
      obtain ⟨y1, y2, y3, y4, y5, y6, y7, y8, y9, y10, rfl, -⟩ := R1.head
      have k0 := S1.cell 0
      have hbg := O1.len
      simp only [List.append_nil] at hl
      subst hl
      go_upto_region 4 with fail
      go_quiet (fail)
      go_wp2_with fail
      go_ret2
      try rw [hn]
      exact ⟨A, c, rfl, O1.drew _, bdN B1 _⟩
    | cons x l3 =>
      obtain ⟨A1, c1, D1, d1, A2, c2, D2, d2, R, rc, b, off, lc, e, hPb, hlc, cx, cy, lx, ly, ox, Rx, Ry, kx, ky⟩ := pairD_view (show RDP wr P (pairD x (joinD l3 last)) _ from R1)
      obtain rfl := congrArg Array.toList (Value.agg.inj e)
      obtain ⟨_, e2, _, oy⟩ := Ry.agg
      obtain rfl := congrArg Array.toList (Value.agg.inj e2)
      match cx, lx, ox, cy, ly, oy with
      | [x0, x1, x2, x3, x4, x5, x6, x7, x8, x9, x10], _, ox, [z0, z1, z2, z3, z4, z5, z6, z7, z8, z9, z10], _, oy =>
      clear e e2 R1
      have hbn := hP b hPb
      have hlen1 : l1.length + 1 + l3.length = l.length := by rw [hl]; simp; omega
      have c0 := S1.cell 0
      go_upto_region 3 with fail
      clear c0
      have c10 := S1.cell 10

      have k0 := kx 0 _ rfl; have k1 := kx 1 _ rfl; have k2 := kx 2 _ rfl; have k3 := kx 3 _ rfl; have k4 := kx 4 _ rfl; have k5 := kx 5 _ rfl; have k6 := kx 6 _ rfl; have k7 := kx 7 _ rfl; have k8 := kx 8 _ rfl; have k9 := kx 9 _ rfl; have k10 := kx 10 _ rfl
      simp only [Nat.add_zero] at k0
      obtain ⟨ls1, O, hl2, h3⟩ := O1
      have S5 := SB.new wr [x0, x1, x2, x3, x4, x5, x6, x7, x8, x9, x10] 31
      have Ba := bal wr (.cells #[x0, x1, x2, x3, x4, x5, x6, x7, x8, x9, x10] 31)
      have hz1 : (wr.alloc (.cells #[x0, x1, x2, x3, x4, x5, x6, x7, x8, x9, x10] 31)).heap.size = wr.heap.size + 1 := by simp
      go_upto_region 2 with (at_builtin; refine wp_appD _ rfl _ _ rfl (n + 1) _ _ _ ls1 rfl hl2.symm (O.alloc _) wr.heap.size _ ⟨[x0, x1, x2, x3, x4, x5, x6, x7, x8, x9, x10], rfl, ox⟩ rfl (fun j u hj => (S5.1 j u hj).1) (by omega) (by omega) ?_; intro A3 c3 w2 O2 G2)
      clear k0 k1 k2 k3 k4 k5 k6 k7 k8 k9 k10 c10
      have Bw : Below (n + 1) wr w2 := (Ba.mono hN1).trans G2
      have hbw : b < n + 1 := by omega
      have S1 := S1.lo Bw (by omega)
      have Rx : RDP w2 P x _ := Rx.keep (fun b hb => Nat.lt_succ_of_lt (hP b hb)) Bw
      have Ry : RDP w2 P (joinD l3 last) _ := Ry.keep (fun b hb => Nat.lt_succ_of_lt (hP b hb)) Bw
      have ky : w2.rangeAt b (off + 11) [z0, z1, z2, z3, z4, z5, z6, z7, z8, z9, z10] := fun j u hj => (Bw.cell (p := ⟨b, off + 11 + j, none⟩) hbw).trans (ky j u hj)
      have BB2 : Below n w w2 := B1.trans (Bw.mono (by omega))
      have h3 : ∀ (i : Nat) (y : Dat), l1[i]? = some y → ∃ cs : C11, ls1[i]? = some cs ∧ RDP w2 P y (.agg cs.1.toArray) := fun i y hy => by
        obtain ⟨cs, e, h4⟩ := h3 i y hy
        exact ⟨cs, e, h4.keep (fun b hb => Nat.lt_succ_of_lt (hP b hb)) Bw⟩
      have OO : ROw w2 (n + 1) P A3 c3 (l1 ++ [x]) := ROw.push O2 hl2 h3 Rx
      have hN2 : n + 1 ≤ w2.heap.size := by have := Bw.size; omega
      clear O O2 S5 Ba Bw G2 B1 Rx
      have c10 := S1.cell 10

      have k0 := ky 0 _ rfl; have k1 := ky 1 _ rfl; have k2 := ky 2 _ rfl; have k3 := ky 3 _ rfl; have k4 := ky 4 _ rfl; have k5 := ky 5 _ rfl; have k6 := ky 6 _ rfl; have k7 := ky 7 _ rfl; have k8 := ky 8 _ rfl; have k9 := ky 9 _ rfl; have k10 := ky 10 _ rfl
      simp only [Nat.add_zero] at k0
      go_upto_region 1 with (refine wp_stD rfl rfl (.tmp 1) (.tmp 10) rfl n rfl [z0, z1, z2, z3, z4, z5, z6, z7, z8, z9, z10] rfl rfl _ S1 rfl oy ?_)
      clear k0 k1 k2 k3 k4 k5 k6 k7 k8 k9 k10 c10
      have OO := OO.sc hP (by omega) (Nat.le_refl _) (Nat.lt_succ_self _) 0 [z0, z1, z2, z3, z4, z5, z6, z7, z8, z9, z10]
      have S1 := S1.cells [z0, z1, z2, z3, z4, z5, z6, z7, z8, z9, z10] rfl
      have Ry := Ry.scP hP (by omega) (Nat.le_refl n) 0 [z0, z1, z2, z3, z4, z5, z6, z7, z8, z9, z10]
      have BB2 := below_cso BB2 (Nat.le_refl n) 0 [z0, z1, z2, z3, z4, z5, z6, z7, z8, z9, z10]
      have hN2 : n + 1 ≤ (w2.setCells n 0 [z0, z1, z2, z3, z4, z5, z6, z7, z8, z9, z10]).heap.size := by rw [size_sc]; exact hN2
      generalize w2.setCells n 0 [z0, z1, z2, z3, z4, z5, z6, z7, z8, z9, z10] = w3 at *
      go_roundg l3.length
      case measure => simp only [List.length_cons] at hgk; omega
      case rel => exact ⟨l1 ++ [x], l3, A3, c3, _, by rw [hl]; simp, rfl, by simp, OO, rfl, S1, Ry, BB2, hN2⟩

end Go.Proofs.YtilhnjecnhpmlaaDoor
namespace Go.Proofs.YtilhnjecnhpmlaaDoor

mutual
/-- how many nodes -/
def Dat.nodes : Dat → Nat
  | .mk _ _ _ _ _ _ l => 1 + nodesL l
def nodesL : List Dat → Nat
  | [] => 0
  | x :: xs => x.nodes + nodesL xs
end
mutual
/-- how deep the deepest node stands below -/
def Dat.dp : Dat → Nat
  | .mk k _ _ _ _ _ l => dpL (decide (k = 8)) 0 l
def dpL : Bool → Nat → List Dat → Nat
  | _, _, [] => 0
  | p, i, x :: xs => max ((if p = true ∧ i = 1 then 0 else 1) + x.dp) (dpL p (i + 1) xs)
end
theorem Dat.nodes_eq (d : Dat) : d.nodes = 1 + nodesL d.l := by cases d; rw [Dat.nodes]; rfl
theorem Dat.dp_eq (d : Dat) : d.dp = dpL (decide (d.k = 8)) 0 d.l := by cases d; rw [Dat.dp]; rfl
theorem inner_eq (p : Bool) (i depth : Nat) : inner p i depth = depth + (if p = true ∧ i = 1 then 0 else 1) := by
  unfold inner; split <;> rfl
section
variable {v : ByteArray → Bool}
mutual
theorem Dat.cnt_yes : ∀ (d : Dat) (depth : Nat) (left : Int), d.Good v → depth + d.dp ≤ 200 → (d.nodes : Int) ≤ left → d.cnt v depth left = left - d.nodes
  | .mk k n re im t raw l, depth, left, hg, hd, hn => by
    have hs := hg.shape
    have hk := hg.kids
    rw [Dat.nodes_eq] at hn ⊢
    rw [Dat.dp_eq] at hd
    simp only [Dat.l, Dat.k] at hk hd hn ⊢
    rw [Dat.cnt, if_neg (by
      rintro (h | h | h)
      · omega
      · omega
      · rw [hs] at h; cases h)]
    exact (cntL_yes l _ 0 depth (left - 1) hk hd (by omega)).trans (by omega)
theorem cntL_yes : ∀ (l : List Dat) (p : Bool) (i depth : Nat) (left : Int), (∀ x ∈ l, x.Good v) → depth + dpL p i l ≤ 200 → (nodesL l : Int) ≤ left → cntL v l p i depth left = left - nodesL l
  | [], p, i, depth, left, _, _, _ => by rw [cntL, nodesL]; omega
  | x :: xs, p, i, depth, left, hg, hd, hn => by
    rw [dpL] at hd
    rw [nodesL] at hn ⊢
    rw [cntL, Dat.cnt_yes x _ left (hg x (by simp)) (by rw [inner_eq]; omega) (by omega), cntL_yes xs p (i + 1) depth _ (fun y hy => hg y (by simp [hy])) (by omega) (by omega)]
    omega
end
mutual
theorem Dat.cnt_of : ∀ (d : Dat) (depth : Nat) (left : Int), 0 ≤ d.cnt v depth left → depth + d.dp ≤ 200 ∧ d.cnt v depth left = left - d.nodes
  | .mk k n re im t raw l, depth, left, h => by
    rw [Dat.nodes_eq, Dat.dp_eq]
    simp only [Dat.l, Dat.k]
    rw [Dat.cnt] at h ⊢
    by_cases hb : 200 < depth ∨ left ≤ 0 ∨ (Dat.mk k n re im t raw l).shape v = false
    · rw [if_pos hb] at h; omega
    · rw [if_neg hb] at h ⊢
      have hd : depth ≤ 200 := Nat.le_of_not_lt fun h => hb (.inl h)
      have hl : 0 < left := Int.not_le.1 fun h => hb (.inr (.inl h))
      have := cntL_of l _ 0 depth (left - 1) hd (by omega) h
      exact ⟨this.1, this.2.trans (by omega)⟩
theorem cntL_of : ∀ (l : List Dat) (p : Bool) (i depth : Nat) (left : Int), depth ≤ 200 → 0 ≤ left → 0 ≤ cntL v l p i depth left → depth + dpL p i l ≤ 200 ∧ cntL v l p i depth left = left - nodesL l
  | [], p, i, depth, left, h0, _, _ => by rw [cntL, nodesL, dpL]; omega
  | x :: xs, p, i, depth, left, h0, h1, h => by
    rw [cntL] at h ⊢
    rw [dpL, nodesL]
    rcases Dat.cnt_le v x (inner p i depth) left with h2 | ⟨h2, _⟩
    · rw [h2, cntL_neg] at h; omega
    · have h3 := Dat.cnt_of x _ _ h2
      have h4 := cntL_of xs p (i + 1) depth _ h0 h2 h
      have h5 := inner_eq p i depth
      refine ⟨?_, by omega⟩
      rw [h5] at h3
      generalize (if p = true ∧ i = 1 then 0 else 1) = q at *
      have := Nat.max_le.2 (⟨(by omega : q + x.dp ≤ 200 - depth), (by omega : dpL p (i + 1) xs ≤ 200 - depth)⟩)
      omega
end
theorem sound_iff {d : Dat} : d.sound v = true ↔ d.Good v ∧ d.dp ≤ 199 ∧ d.nodes ≤ 20000 := by
  constructor
  · intro h
    have hg := Dat.sound_good h
    unfold Dat.sound at h
    have h := of_decide_eq_true h
    have h2 := Dat.cnt_of d 1 20000 h
    exact ⟨hg, by omega, by omega⟩
  · rintro ⟨h1, h2, h3⟩
    unfold Dat.sound
    rw [Dat.cnt_yes d 1 20000 h1 (by omega) (by omega)]
    exact decide_eq_true (by omega)
theorem pair_shape (hv : v ByteArray.empty = true) (x y : Dat) : (pairD x y).shape v = true := by
  unfold Dat.shape pairD
  simp [Dat.k, Dat.n, Dat.re, Dat.im, Dat.t, Dat.raw, Dat.l, noR, hv, textK]
theorem pair_good (hv : v ByteArray.empty = true) {x y : Dat} : (pairD x y).Good v ↔ x.Good v ∧ y.Good v := by
  constructor
  · intro h
    have := h.kids
    exact ⟨this x (by simp [pairD, Dat.l]), this y (by simp [pairD, Dat.l])⟩
  · rintro ⟨h1, h2⟩
    refine .mk (pair_shape hv x y) fun z hz => ?_
    simp only [pairD, Dat.l, List.mem_cons, List.not_mem_nil, or_false] at hz
    rcases hz with rfl | rfl <;> assumption
theorem pair_nodes (x y : Dat) : (pairD x y).nodes = 1 + x.nodes + y.nodes := by
  rw [Dat.nodes_eq]; show 1 + nodesL [x, y] = _; simp only [nodesL]; omega
theorem pair_dp (x y : Dat) : (pairD x y).dp = max (1 + x.dp) y.dp := by
  rw [Dat.dp_eq]; show dpL (decide ((8 : Int) = 8)) 0 [x, y] = _; simp [dpL]
/-- the nodes of a list's items, and its pairs -/
def nodesS (l : List Dat) : Nat := (l.map fun x => x.nodes + 1).sum
theorem join_good (hv : v ByteArray.empty = true) {last : Dat} : ∀ {l : List Dat}, (joinD l last).Good v ↔ (∀ x ∈ l, x.Good v) ∧ last.Good v
  | [] => by simp [joinD]
  | x :: xs => by
    show (pairD x (joinD xs last)).Good v ↔ _
    rw [pair_good hv, join_good hv]
    simp [and_assoc]
theorem join_nodes (last : Dat) : ∀ (l : List Dat), (joinD l last).nodes = nodesS l + last.nodes
  | [] => by simp [joinD, nodesS]
  | x :: xs => by
    show (pairD x (joinD xs last)).nodes = _
    rw [pair_nodes, join_nodes last xs]
    simp only [nodesS, List.map_cons, List.sum_cons]
    omega
theorem join_dp (last : Dat) (K : Nat) : ∀ (l : List Dat), (joinD l last).dp ≤ K ↔ (∀ x ∈ l, 1 + x.dp ≤ K) ∧ last.dp ≤ K
  | [] => by simp [joinD]
  | x :: xs => by
    show (pairD x (joinD xs last)).dp ≤ K ↔ _
    rw [pair_dp, Nat.max_le, join_dp last K xs]
    simp [and_assoc]
theorem join_sound (hv : v ByteArray.empty = true) {l : List Dat} {last : Dat} : (joinD l last).sound v = true ↔ (∀ x ∈ l, x.Good v ∧ 1 + x.dp ≤ 199) ∧ last.Good v ∧ last.dp ≤ 199 ∧ nodesS l + last.nodes ≤ 20000 := by
  rw [sound_iff, join_good hv, join_dp, join_nodes]
  constructor
  · rintro ⟨⟨h1, h2⟩, ⟨h3, h4⟩, h5⟩
    exact ⟨fun x hx => ⟨h1 x hx, h3 x hx⟩, h2, h4, h5⟩
  · rintro ⟨h1, h2, h3, h4⟩
    exact ⟨⟨fun x hx => (h1 x hx).1, h2⟩, ⟨fun x hx => (h1 x hx).2, h3⟩, h4⟩
theorem Dat.nodes_pos (d : Dat) : 1 ≤ d.nodes := by rw [d.nodes_eq]; omega
theorem nodesS_append (a b : List Dat) : nodesS (a ++ b) = nodesS a + nodesS b := by simp [nodesS]
theorem nodesS_len : ∀ (l : List Dat), 2 * l.length ≤ nodesS l
  | [] => by simp [nodesS]
  | x :: xs => by
    have := nodesS_len xs
    have := x.nodes_pos
    simp only [nodesS, List.map_cons, List.sum_cons, List.length_cons] at *
    omega
theorem nodesS_sub {a b : List Dat} (h : a.Sublist b) : nodesS a ≤ nodesS b := by
  induction h with
  | slnil => exact Nat.le_refl _
  | cons x _ ih => simp only [nodesS, List.map_cons, List.sum_cons] at *; omega
  | cons_cons x _ ih => simp only [nodesS, List.map_cons, List.sum_cons] at *; omega
theorem nodesS_perm {a b : List Dat} (h : a.Perm b) : nodesS a = nodesS b := (h.map _).sum_nat
/-- part of a sound list's items make a sound list -/
theorem sub_sound (hv : v ByteArray.empty = true) {l m : List Dat} {last : Dat} (h : (joinD l last).sound v = true) (hm : m.Sublist l) : (joinD m last).sound v = true := by
  rw [join_sound hv] at h ⊢
  exact ⟨fun x hx => h.1 x (hm.subset hx), h.2.1, h.2.2.1, by have := nodesS_sub hm; omega⟩
theorem perm_sound (hv : v ByteArray.empty = true) {l m : List Dat} {last : Dat} (h : (joinD l last).sound v = true) (hm : m.Perm l) : (joinD m last).sound v = true := by
  rw [join_sound hv] at h ⊢
  exact ⟨fun x hx => h.1 x (hm.mem_iff.1 hx), h.2.1, h.2.2.1, by have := nodesS_perm hm; omega⟩
theorem item_sound (hv : v ByteArray.empty = true) {l : List Dat} {last x : Dat} (h : (joinD l last).sound v = true) (hx : x ∈ l) : x.sound v = true := by
  rw [join_sound hv] at h
  rw [sound_iff]
  obtain ⟨h1, h2⟩ := h.1 x hx
  have h3 : nodesS [x] ≤ nodesS l := nodesS_sub (List.singleton_sublist.2 hx)
  simp only [nodesS, List.map_cons, List.sum_cons, List.map_nil, List.sum_nil] at h3
  exact ⟨h1, by omega, by unfold nodesS at h; omega⟩
theorem last_sound (hv : v ByteArray.empty = true) {l : List Dat} {last : Dat} (h : (joinD l last).sound v = true) : last.sound v = true := by
  rw [join_sound hv] at h
  rw [sound_iff]
  exact ⟨h.2.1, h.2.2.1, by omega⟩
theorem join_len (hv : v ByteArray.empty = true) {l : List Dat} {last : Dat} (h : (joinD l last).sound v = true) : l.length ≤ 10000 := by
  rw [join_sound hv] at h
  have := nodesS_len l
  omega
/-- a list's items, and what stands behind the last pair -/
def Dat.parts (d : Dat) : List Dat × Dat :=
  if d.k = 8 then
    match _h : d.l with
    | [x, y] => (x :: (Dat.parts y).1, (Dat.parts y).2)
    | _ => ([], d)
  else ([], d)
termination_by SizeOf.sizeOf d
decreasing_by all_goals exact Dat.lt_of_mem (by rw [_h]; simp)
theorem parts_no {d : Dat} (h : d.k ≠ 8) : d.parts = ([], d) := by rw [Dat.parts, if_neg h]
theorem parts_pair (x y : Dat) : (pairD x y).parts = (x :: y.parts.1, y.parts.2) := by
  rw [Dat.parts, if_pos (show (pairD x y).k = 8 from rfl)]
  split
  · rename_i a b h
    simp only [pairD, Dat.l, List.cons.injEq, and_true] at h
    obtain ⟨rfl, rfl⟩ := h
    rfl
  · rename_i h
    exact absurd rfl (h x y)
theorem parts_join {last : Dat} (h : last.k ≠ 8) : ∀ (l : List Dat), (joinD l last).parts = (l, last)
  | [] => parts_no h
  | x :: xs => by
    show (pairD x (joinD xs last)).parts = _
    rw [parts_pair, parts_join h xs]
theorem good_pair {d : Dat} (h : d.Good v) (hk : d.k = 8) : ∃ x y, d = pairD x y := by
  have hp := shape_parts h.shape
  obtain ⟨x, y, hl⟩ := pair_two2 h.shape hk
  refine ⟨x, y, Dat.ext hk (hp.2.2.2.2 (by omega) (by omega)) (hp.1 (by omega)).1 (hp.1 (by omega)).2 (hp.2.1 (by rw [hk]; decide)) (hp.2.2.1 (by omega)) hl⟩
theorem good_join : ∀ (m : Nat) (d : Dat), SizeOf.sizeOf d ≤ m → d.Good v → d = joinD d.parts.1 d.parts.2 ∧ d.parts.2.k ≠ 8
  | 0, d, hm, _ => by cases d; simp only [Dat.mk.sizeOf_spec] at hm; omega
  | m + 1, d, hm, hg => by
    by_cases hk : d.k = 8
    · obtain ⟨x, y, rfl⟩ := good_pair hg hk
      rw [parts_pair]
      have := good_join m y (by have := Dat.lt_of_mem (d := pairD x y) (x := y) (by simp [pairD, Dat.l]); omega) (hg.kids y (by simp [pairD, Dat.l]))
      exact ⟨congrArg (pairD x) this.1, this.2⟩
    · rw [parts_no hk]; exact ⟨rfl, hk⟩
theorem join_parts {d : Dat} (h : d.sound v = true) : d = joinD d.parts.1 d.parts.2 ∧ d.parts.2.k ≠ 8 := good_join _ d (Nat.le_refl _) (Dat.sound_good h)
end
end Go.Proofs.YtilhnjecnhpmlaaDoor
namespace Go.Proofs.YtilhnjecnhpmlaaDoor
open Go.RowKit

theorem vU_nil : vU ByteArray.empty = true := by decide +kernel
/-- the errors of a list that is read -/
def listE (d : Dat) : Int := if d.sound vU = true then if d.parts.2.k = 1 then 0 else 10 else 2
def listL (d : Dat) : List Dat := if d.sound vU = true then if d.parts.2.k = 1 then d.parts.1 else [] else []
theorem list_no {d : Dat} (h : d.sound vU = false) : listE d = 2 ∧ listL d = [] := by unfold listE listL; simp [h]
theorem list_bad {d : Dat} (h : d.sound vU = true) (hk : (d.parts.2.k == 1) = false) : listE d = 10 ∧ listL d = [] := by unfold listE listL; simp [h] at *; simp [hk]
theorem list_ok {d : Dat} (h : d.sound vU = true) (hk : (d.parts.2.k == 1) = true) : listE d = 0 ∧ listL d = d.parts.1 := by unfold listE listL; simp [h] at *; simp [hk]
theorem Tabs.go {w w' : World} {n : Nat} (h : Tabs w) (hn : w.heap.size = n) (hb : Below n w w') : Tabs w' := by subst hn; exact Utf8Tabs_below h hb
theorem RDP.snd {w : World} {P : Nat → Prop} {n : Nat} {d : Dat} {v : Value} (h : RDP w P d v) (hP : ∀ b, P b → b < n) (hn : n ≤ w.heap.size) : RD w w.heap.size d v := h.rd (fun z hz => Nat.lt_of_lt_of_le (hP z hz) hn)

set_option maxRecDepth 100000 in
set_option maxHeartbeats 8000000 in
theorem lread_any (d : Dat) (v : Value) (w : World) (P : Nat → Prop) (hP : ∀ b, P b → b < w.heap.size) (hR : RDP w P d v) (hT : Tabs w) :
    Calls Tryd.prog 30 #[v, .slice none 0 0] w fun e w' => ∃ A c, e = .returned (.tuple #[.slice A (listL d).length c, .int .i64 (listE d)]) ∧ ROw w' w.heap.size P A c (listL d) ∧ Below w.heap.size w w' := by
  obtain ⟨ls, rfl, ll, lo⟩ := hR.agg
  match ls, ll, lo with
  | [y0, y1, y2, y3, y4, y5, y6, y7, y8, y9, y10], _, lo =>
  have S0 := SB.new w [y0, y1, y2, y3, y4, y5, y6, y7, y8, y9, y10] 31
  have BB := bal w (.cells #[y0, y1, y2, y3, y4, y5, y6, y7, y8, y9, y10] 31)
  have R0 : RDP _ P d _ := hR.step (fun z hz => BB.block z (hP z hz)) (fun z hz => hz)
  obtain ⟨W0, hW0⟩ : ∃ W0, W0 = w.alloc (.cells #[y0, y1, y2, y3, y4, y5, y6, y7, y8, y9, y10] 31) := ⟨_, rfl⟩
  have hN : w.heap.size + 1 ≤ W0.heap.size := by rw [hW0]; simp
  rw [← hW0] at S0 BB R0
  go_enter Tryd.func30, Tryd.ntmps30
  go_upto_region 1 with fail
  rw [← hW0]
  clear hW0 hR
  generalize hn : w.heap.size = n at *
  have k0 := S0.cell 0; have k1 := S0.cell 1; have k2 := S0.cell 2; have k3 := S0.cell 3; have k4 := S0.cell 4; have k5 := S0.cell 5; have k6 := S0.cell 6; have k7 := S0.cell 7; have k8 := S0.cell 8; have k9 := S0.cell 9; have k10 := S0.cell 10
  have S5 := SB.new W0 [y0, y1, y2, y3, y4, y5, y6, y7, y8, y9, y10] 31
  have Ba := bal W0 (.cells #[y0, y1, y2, y3, y4, y5, y6, y7, y8, y9, y10] 31)
  have hz1 : (W0.alloc (.cells #[y0, y1, y2, y3, y4, y5, y6, y7, y8, y9, y10] 31)).heap.size = W0.heap.size + 1 := by simp
  go_upto_region 2 with (at_builtin; refine wp_appD _ rfl _ _ rfl (n + 1) none 0 0 [] rfl rfl (OK.nil _ _ _ _ _) W0.heap.size _ ⟨[y0, y1, y2, y3, y4, y5, y6, y7, y8, y9, y10], rfl, lo⟩ rfl (fun j u hj => (S5.1 j u hj).1) (by simp) (by omega) ?_; intro A3 c3 w2 O2 G2)
  clear k0 k1 k2 k3 k4 k5 k6 k7 k8 k9 k10
  have Bw : Below (n + 1) W0 w2 := (Ba.mono hN).trans G2
  have S0 := S0.lo Bw (by omega)
  have R0 : RDP w2 P d _ := R0.keep (fun b hb => Nat.lt_succ_of_lt (hP b hb)) Bw
  have BB := BB.trans (Bw.mono (by omega))
  have hN : n + 1 ≤ w2.heap.size := by have := Bw.size; omega
  obtain ⟨g, rfl, hg1, hg2, M0⟩ := (ROw.push (l := []) O2 rfl (fun i y hy => by cases hy) R0 : ROw w2 (n + 1) P A3 c3 ([] ++ [d])).mut (by simp)
  clear O2 G2 Bw Ba S5 hz1
  go_loopg [15] 1 (fun gk s15 wx => ∃ k : Nat, s15 = .int .i64 (k : Int) ∧ k + gk = 1 ∧ SB wx n [y0, y1, y2, y3, y4, y5, y6, y7, y8, y9, y10] ∧ RDP wx P d (.agg #[y0, y1, y2, y3, y4, y5, y6, y7, y8, y9, y10]) ∧ RowM wx P g 0 [d] ∧ Below n w wx ∧ n + 1 ≤ wx.heap.size ∧ g < wx.heap.size ∧ (k = 1 → d.sound vU = true))
  case atStart => exact ⟨0, rfl, rfl, S0, R0, M0, BB, hN, hg2, fun h => by cases h⟩
  case round =>
    clear S0 R0 M0 BB hN hg2
    obtain ⟨k, rfl, hk, S1, R1, M1, B1, hN, hg3, hs⟩ := hrel
    by_cases hk0 : k = 0
    · subst hk0
      obtain ⟨cs, hl, so, re⟩ := M1.at_ (i := 0) (by simp)
      match cs, hl with
      | [x0, x1, x2, x3, x4, x5, x6, x7, x8, x9, x10], _ =>
      have re : RDP wr P d (.agg #[x0, x1, x2, x3, x4, x5, x6, x7, x8, x9, x10]) := re
      obtain ⟨_, e2, _, oy⟩ := re.agg
      obtain rfl := congrArg Array.toList (Value.agg.inj e2)
      clear e2

      have k0 : wr.cell? ⟨g, 0, none⟩ = some x0 := (by simpa using so.cell 0); have k1 : wr.cell? ⟨g, 1, none⟩ = some x1 := (by simpa using so.cell 1); have k2 : wr.cell? ⟨g, 2, none⟩ = some x2 := (by simpa using so.cell 2); have k3 : wr.cell? ⟨g, 3, none⟩ = some x3 := (by simpa using so.cell 3); have k4 : wr.cell? ⟨g, 4, none⟩ = some x4 := (by simpa using so.cell 4); have k5 : wr.cell? ⟨g, 5, none⟩ = some x5 := (by simpa using so.cell 5); have k6 : wr.cell? ⟨g, 6, none⟩ = some x6 := (by simpa using so.cell 6); have k7 : wr.cell? ⟨g, 7, none⟩ = some x7 := (by simpa using so.cell 7); have k8 : wr.cell? ⟨g, 8, none⟩ = some x8 := (by simpa using so.cell 8); have k9 : wr.cell? ⟨g, 9, none⟩ = some x9 := (by simpa using so.cell 9); have k10 : wr.cell? ⟨g, 10, none⟩ = some x10 := (by simpa using so.cell 10)
      have Sg := SB.new wr [.int .i64 0, .int .i64 0, .bool false, .slice none 0 0, .slice none 0 0, .bool false, .slice none 0 0, .slice none 0 0, .string { data := #[] }, .slice none 0 0, .slice none 0 0] 31
      obtain ⟨w4, hw4⟩ : ∃ w4, w4 = (wr.alloc (.cells #[.int .i64 0, .int .i64 0, .bool false, .slice none 0 0, .slice none 0 0, .bool false, .slice none 0 0, .slice none 0 0, .string { data := #[] }, .slice none 0 0, .slice none 0 0] 31)).setCells wr.heap.size 0 [x0, x1, x2, x3, x4, x5, x6, x7, x8, x9, x10] := ⟨_, rfl⟩
      have Bw4 : Below wr.heap.size wr w4 := by rw [hw4]; exact below_cso (bal wr _) (Nat.le_refl _) 0 [x0, x1, x2, x3, x4, x5, x6, x7, x8, x9, x10]
      have S4 : SB w4 wr.heap.size [x0, x1, x2, x3, x4, x5, x6, x7, x8, x9, x10] := by rw [hw4]; exact Sg.cells [x0, x1, x2, x3, x4, x5, x6, x7, x8, x9, x10] rfl
      have hgwr : n + 1 ≤ wr.heap.size := hN
      replace hw4 := Lib.hid hw4
      go_upto_region 4 with (refine wp_stD rfl rfl (.tmp 7) (.tmp 18) rfl wr.heap.size rfl [x0, x1, x2, x3, x4, x5, x6, x7, x8, x9, x10] rfl rfl _ Sg rfl oy ?_; rw [← hw4.out]; clear hw4)
      clear Sg
      clear k0 k1 k2 k3 k4 k5 k6 k7 k8 k9 k10
      have S1 := S1.nx Bw4
      have R1 := R1.keeps hP (by omega) Bw4
      have re := re.keeps hP (by omega) Bw4
      have B1 := B1.trans (Bw4.mono (by omega))
      have M1 := M1.keep (fun b hb => Nat.lt_of_lt_of_le (hP b hb) (by omega)) Bw4
      have hN := Nat.le_trans hN Bw4.size
      have k0 := S4.cell 0; have k1 := S4.cell 1; have k2 := S4.cell 2; have k3 := S4.cell 3; have k4 := S4.cell 4; have k5 := S4.cell 5; have k6 := S4.cell 6; have k7 := S4.cell 7; have k8 := S4.cell 8; have k9 := S4.cell 9; have k10 := S4.cell 10
      have hg4 : g < w4.heap.size := by have := Bw4.size; omega
      go_wp2_with fail
      refine (dsound_any vU d _ w4 (re.snd hP (by omega)) (hT.go hn B1).vs).mono ?_
      rintro e w5 ⟨rfl, B5⟩
      clear k0 k1 k2 k3 k4 k5 k6 k7 k8 k9 k10
      have S1 := S1.nx B5
      have R1 := R1.keeps hP (by omega) B5
      have re := re.keeps hP (by omega) B5
      have B1 := B1.trans (B5.mono (by omega))
      have M1 := M1.keep (fun b hb => Nat.lt_of_lt_of_le (hP b hb) (by omega)) B5
      have hN := Nat.le_trans hN B5.size
      have hg5 : g < w5.heap.size := by have := B5.size; omega
      cases hd : d.sound vU with
      | false =>
        go_wp2_with fail
        go_ret2
        rw [(list_no hd).1, (list_no hd).2]
        try rw [hn]
        exact ⟨_, _, rfl, ROw.nil _ _ _, B1⟩
      | true =>
        go_upto_region 6 with fail
        go_wp2_with fail
        go_roundg 0
        case measure => omega
        case rel => exact ⟨1, rfl, rfl, S1, R1, M1, B1, hN, hg5, fun _ => hd⟩
    · obtain rfl : k = 1 := by omega
      have hd := hs rfl
      obtain ⟨hj, hk8⟩ := join_parts hd
      have hlen := join_len vU_nil (hj ▸ hd)
      have R1 : RDP wr P (joinD d.parts.1 d.parts.2) _ := hj ▸ R1
      clear hj
      have k0 := S1.cell 0; have k1 := S1.cell 1; have k2 := S1.cell 2; have k3 := S1.cell 3; have k4 := S1.cell 4; have k5 := S1.cell 5; have k6 := S1.cell 6; have k7 := S1.cell 7; have k8 := S1.cell 8; have k9 := S1.cell 9; have k10 := S1.cell 10
      go_wp2_with fail
      refine (litems_any d.parts.1 d.parts.2 hk8 (by omega) _ wr P (fun z hz => by have := hP z hz; omega) R1).mono ?_
      rintro e w2 ⟨A, c, rfl, O2, B2⟩
      clear k0 k1 k2 k3 k4 k5 k6 k7 k8 k9 k10
      have hN2 := B2.size
      have B1 := B1.trans (B2.mono (by omega))
      obtain ⟨z, hz⟩ : ∃ z, Hid ((d.parts.2.k == 1) = z) := ⟨_, rfl⟩
      rw [hz.out]
      go_upto_region 8 with fail
      cases z with
      | false =>
        go_wp2_with fail
        go_ret2
        rw [(list_bad hd hz.out).1, (list_bad hd hz.out).2]
        try rw [hn]
        exact ⟨_, _, rfl, ROw.nil _ _ _, B1⟩
      | true =>
        go_wp2_with fail
        go_ret2
        rw [(list_ok hd hz.out).1, (list_ok hd hz.out).2]
        try rw [hn]
        exact ⟨_, _, rfl, O2.base_le (by omega), B1⟩

theorem listL_sound {d x : Dat} (h : x ∈ listL d) : x.sound vU = true := by
  unfold listL at h
  split at h
  · rename_i hd
    split at h
    · exact item_sound vU_nil ((join_parts hd).1 ▸ hd) h
    · cases h
  · cases h
theorem listL_len (d : Dat) : (listL d).length ≤ 10000 := by
  unfold listL
  split
  · rename_i hd
    split
    · exact join_len vU_nil ((join_parts hd).1 ▸ hd)
    · simp
  · simp
set_option maxRecDepth 100000 in
set_option maxHeartbeats 8000000 in
theorem litemsAll_any (d : Dat) (v : Value) (w : World) (P : Nat → Prop) (hP : ∀ b, P b → b < w.heap.size) (hR : RDP w P d v) (hT : Tabs w) :
    Calls Tryd.prog 13 #[v] w fun e w' => ∃ A c, e = .returned (.tuple #[.slice A (listL d).length c, .int .i64 (listE d)]) ∧ RLs w' (Out P w.heap.size w') A c (listL d) ∧ Below w.heap.size w w' := by
  obtain ⟨ls, rfl, ll, lo⟩ := hR.agg
  match ls, ll, lo with
  | [y0, y1, y2, y3, y4, y5, y6, y7, y8, y9, y10], _, lo =>
  have S0 := SB.new w [y0, y1, y2, y3, y4, y5, y6, y7, y8, y9, y10] 31
  have BB := bal w (.cells #[y0, y1, y2, y3, y4, y5, y6, y7, y8, y9, y10] 31)
  have R0 : RDP _ P d _ := hR.step (fun z hz => BB.block z (hP z hz)) (fun z hz => hz)
  obtain ⟨W0, hW0⟩ : ∃ W0, W0 = w.alloc (.cells #[y0, y1, y2, y3, y4, y5, y6, y7, y8, y9, y10] 31) := ⟨_, rfl⟩
  have hN : w.heap.size + 1 ≤ W0.heap.size := by rw [hW0]; simp
  rw [← hW0] at S0 BB R0
  go_enter Tryd.func13, Tryd.ntmps13
  go_upto_region 1 with fail
  rw [← hW0]
  clear hW0 hR
  generalize hn : w.heap.size = n at *
  have k0 := S0.cell 0; have k1 := S0.cell 1; have k2 := S0.cell 2; have k3 := S0.cell 3; have k4 := S0.cell 4; have k5 := S0.cell 5; have k6 := S0.cell 6; have k7 := S0.cell 7; have k8 := S0.cell 8; have k9 := S0.cell 9; have k10 := S0.cell 10
  go_wp2_with fail
  refine (lread_any d _ W0 P (fun z hz => by have := hP z hz; omega) R0 (hT.go hn BB)).mono ?_
  rintro e w2 ⟨A, c, rfl, O2, B2⟩
  clear k0 k1 k2 k3 k4 k5 k6 k7 k8 k9 k10
  have BB := BB.trans (B2.mono (by omega))
  have hlc := O2.len
  obtain ⟨g, hg1, hg, M0⟩ := O2.mut'
  have hg1 : n + 1 ≤ g := by omega
  have M0 : RowM w2 (QO P n g w2) g 0 (listL d) := M0.more fun b hb => ⟨.inl hb, by have := hP b hb; omega⟩
  have hN := Nat.le_trans hN B2.size
  have hlen := listL_len d
  have hsn : ∀ x ∈ listL d, x.sound vU = true := fun x hx => listL_sound hx
  generalize hl0 : listL d = l at *
  generalize he0 : listE d = er at *
  replace hl0 := Lib.hid hl0
  replace he0 := Lib.hid he0
  clear S0 R0 O2 B2
  go_upto_region 3 with fail
  go_loopg [15] l.length (fun gk s15 wx => ∃ k : Nat, s15 = .int .i64 (k : Int) ∧ k ≤ l.length ∧ k + gk = l.length ∧ RowM wx (QO P n g wx) g 0 l ∧ Below n w wx ∧ n + 1 ≤ wx.heap.size ∧ (0 < l.length → A = some ⟨g, 0, none⟩ ∧ g < wx.heap.size))
  case atStart => exact ⟨0, rfl, Nat.zero_le _, by omega, M0, BB, hN, hg⟩
  case round =>
    clear M0 BB hg hN
    obtain ⟨k, rfl, hkl, hgk, M1, B1, hN, hg2⟩ := hrel
    by_cases hk : k < l.length
    · obtain ⟨rfl, hgw⟩ := hg2 (by omega)
      obtain ⟨cs, hl, so, re⟩ := M1.at_ hk
      match cs, hl with
      | [x0, x1, x2, x3, x4, x5, x6, x7, x8, x9, x10], _ =>
      obtain ⟨_, e2, _, oy⟩ := re.agg
      obtain rfl := congrArg Array.toList (Value.agg.inj e2)
      clear e2
      have k0 : wr.cell? ⟨g, k * 11, none⟩ = some x0 := (by simpa using so.cell 0); have k1 : wr.cell? ⟨g, k * 11 + 1, none⟩ = some x1 := (by simpa using so.cell 1); have k2 : wr.cell? ⟨g, k * 11 + 2, none⟩ = some x2 := (by simpa using so.cell 2); have k3 : wr.cell? ⟨g, k * 11 + 3, none⟩ = some x3 := (by simpa using so.cell 3); have k4 : wr.cell? ⟨g, k * 11 + 4, none⟩ = some x4 := (by simpa using so.cell 4); have k5 : wr.cell? ⟨g, k * 11 + 5, none⟩ = some x5 := (by simpa using so.cell 5); have k6 : wr.cell? ⟨g, k * 11 + 6, none⟩ = some x6 := (by simpa using so.cell 6); have k7 : wr.cell? ⟨g, k * 11 + 7, none⟩ = some x7 := (by simpa using so.cell 7); have k8 : wr.cell? ⟨g, k * 11 + 8, none⟩ = some x8 := (by simpa using so.cell 8); have k9 : wr.cell? ⟨g, k * 11 + 9, none⟩ = some x9 := (by simpa using so.cell 9); have k10 : wr.cell? ⟨g, k * 11 + 10, none⟩ = some x10 := (by simpa using so.cell 10)
      have Sg := SB.new wr [.int .i64 0, .int .i64 0, .bool false, .slice none 0 0, .slice none 0 0, .bool false, .slice none 0 0, .slice none 0 0, .string { data := #[] }, .slice none 0 0, .slice none 0 0] 31
      obtain ⟨w4, hw4⟩ : ∃ w4, w4 = (wr.alloc (.cells #[.int .i64 0, .int .i64 0, .bool false, .slice none 0 0, .slice none 0 0, .bool false, .slice none 0 0, .slice none 0 0, .string { data := #[] }, .slice none 0 0, .slice none 0 0] 31)).setCells wr.heap.size 0 [x0, x1, x2, x3, x4, x5, x6, x7, x8, x9, x10] := ⟨_, rfl⟩
      have Bw4 : Below wr.heap.size wr w4 := by rw [hw4]; exact below_cso (bal wr _) (Nat.le_refl _) 0 [x0, x1, x2, x3, x4, x5, x6, x7, x8, x9, x10]
      have S4 : SB w4 wr.heap.size [x0, x1, x2, x3, x4, x5, x6, x7, x8, x9, x10] := by rw [hw4]; exact Sg.cells [x0, x1, x2, x3, x4, x5, x6, x7, x8, x9, x10] rfl
      have hgwr : n + 1 ≤ wr.heap.size := hN
      replace hw4 := Lib.hid hw4
      have hkz : (k : Int) < (l.length : Int) := by omega
      go_upto_region 5 with (refine wp_stD rfl rfl (.tmp 7) (.tmp 19) rfl wr.heap.size rfl [x0, x1, x2, x3, x4, x5, x6, x7, x8, x9, x10] rfl rfl _ Sg rfl oy ?_; rw [← hw4.out]; clear hw4)
      clear Sg
      clear k0 k1 k2 k3 k4 k5 k6 k7 k8 k9 k10
      have re := re.step (fun z hz => Bw4.block z (hz.lt hP (by omega)).1) (fun _ h => h)
      have M1 := M1.go hP (by omega) Bw4
      have B1 := B1.trans (Bw4.mono (by omega))
      have hN := Nat.le_trans hN Bw4.size
      have k0 := S4.cell 0; have k1 := S4.cell 1; have k2 := S4.cell 2; have k3 := S4.cell 3; have k4 := S4.cell 4; have k5 := S4.cell 5; have k6 := S4.cell 6; have k7 := S4.cell 7; have k8 := S4.cell 8; have k9 := S4.cell 9; have k10 := S4.cell 10
      have hg4 : g < w4.heap.size := by have := Bw4.size; omega
      go_wp2_with fail
      refine (copy_go vU _ l[k] (Nat.le_refl _) (Dat.sound_fit (hsn _ (List.getElem_mem hk))) _ w4 (re.rd (fun z hz => Nat.lt_of_lt_of_le (hz.lt hP (by omega)).1 (by have := Bw4.size; omega)))).mono ?_
      rintro e w5 ⟨v', rfl, R5, B5⟩
      clear k0 k1 k2 k3 k4 k5 k6 k7 k8 k9 k10
      have M1 := M1.go hP (by omega) B5
      have B1 := B1.trans (B5.mono (by omega))
      have hN := Nat.le_trans hN B5.size
      have hg5 : g < w5.heap.size := by have := B5.size; omega
      obtain ⟨zs, rfl, zl, zo⟩ := R5.agg
      match zs, zl, zo with
      | [z0, z1, z2, z3, z4, z5, z6, z7, z8, z9, z10], _, zo =>
      have R5 : RDP w5 (QO P n g w5) l[k] (.agg #[z0, z1, z2, z3, z4, z5, z6, z7, z8, z9, z10]) := R5.step (fun _ _ => rfl) (fun b hb => ⟨.inr ⟨by omega, hb.2⟩, by omega⟩)
      obtain ⟨ds, dl, do_, -⟩ := M1.at_ hk
      have th : w5.there g (k * 11) 11 := fun j hj => by
        have := do_.1 j _ (List.getElem?_eq_getElem (by omega))
        rw [Nat.zero_add] at this
        exact ⟨by rw [this.1]; rfl, this.2⟩
      go_upto_region 6 with (refine wp_stDo rfl rfl (.tmp 24) (.tmp 23) rfl g (k * 11) rfl [z0, z1, z2, z3, z4, z5, z6, z7, z8, z9, z10] rfl rfl th zo ?_)
      have M1 := M1.set (fun b hb => hb.lt hP (by omega)) hk (y := l[k]) rfl R5
      rw [List.set_getElem_self, Nat.zero_add] at M1
      have B1 := below_cso B1 (b := g) (by omega) (k * 11) [z0, z1, z2, z3, z4, z5, z6, z7, z8, z9, z10]
      have hN : n + 1 ≤ (w5.setCells g (k * 11) [z0, z1, z2, z3, z4, z5, z6, z7, z8, z9, z10]).heap.size := by rw [size_sc]; exact hN
      have hg5 : g < (w5.setCells g (k * 11) [z0, z1, z2, z3, z4, z5, z6, z7, z8, z9, z10]).heap.size := by rw [size_sc]; exact hg5
      have M1 : RowM (w5.setCells g (k * 11) [z0, z1, z2, z3, z4, z5, z6, z7, z8, z9, z10]) (QO P n g (w5.setCells g (k * 11) [z0, z1, z2, z3, z4, z5, z6, z7, z8, z9, z10])) g 0 l := M1.more fun b hb => ⟨hb.1.up (Nat.le_refl _) (by rw [size_sc]; exact Nat.le_refl _), hb.2⟩
      generalize w5.setCells g (k * 11) [z0, z1, z2, z3, z4, z5, z6, z7, z8, z9, z10] = w6 at *
      go_wp2_with fail
      go_roundg (l.length - (k + 1))
      case measure => omega
      case rel => exact ⟨k + 1, by simp, by omega, by omega, M1, B1, hN, fun _ => ⟨by trivial, hg5⟩⟩
    · have hkz : ¬ (k : Int) < (l.length : Int) := by omega
      go_wp2_with fail
      go_ret2
      try rw [hn]
      rw [hl0.out, he0.out]
      refine ⟨_, _, rfl, M1.rls' hlc (by omega) (fun h => (hg2 h).1) (fun b hb => hb.1) (fun h => .inr ⟨by omega, (hg2 h).2⟩), B1⟩

end Go.Proofs.YtilhnjecnhpmlaaDoor
namespace Go.Proofs.YtilhnjecnhpmlaaDoor
open Go.RowKit

/-- a late operation has come up -/
def Gone (n : Nat → Bool) (l : Array Bool) : Prop := ∃ j, n j = true ∧ l.getD j false = true
theorem Gone.set {n : Nat → Bool} {l : Array Bool} (h : Gone n l) (i : Nat) : Gone n (l.setIfInBounds i true) := by
  obtain ⟨j, h1, h2⟩ := h
  exact ⟨j, h1, getD_set_true h2⟩
theorem Gone.unset {n : Nat → Bool} {l : Array Bool} {i : Nat} (hi : n i = false) (h : Gone n (l.setIfInBounds i true)) : Gone n l := by
  obtain ⟨j, h1, h2⟩ := h
  refine ⟨j, h1, ?_⟩
  by_cases e : i = j
  · rw [e, h1] at hi; cases hi
  · rwa [getD_set_ne false e] at h2
def notGone (n : Nat → Bool) (l : Array Bool) : Bool := (List.range l.size).all fun j => !(n j && l.getD j false)
theorem notGone.spec {n : Nat → Bool} {l : Array Bool} (h : notGone n l = true) : ¬ Gone n l := by
  rintro ⟨j, h1, h2⟩
  have hj : j < l.size := by
    rcases Nat.lt_or_ge j l.size with h3 | h3
    · exact h3
    · simp [Array.getD_eq_getD_getElem?, Array.getElem?_eq_none h3] at h2
  have := List.all_eq_true.1 h j (List.mem_range.2 hj)
  rw [h1, h2] at this
  cases this
section
variable {P : Program} {ops : Array Oper} {Q : Exit → Act → World → Prop} {md : Region.Mode} {S : World → Prop} {n : Nat → Bool}
/-- in whatever order; S holds till a late operation has come up -/
def AnyW (P : Program) (md : Region.Mode) (ops : Array Oper) (Q : Exit → Act → World → Prop) (S : World → Prop) (n : Nat → Bool) : Nat → Array Bool → Act → World → Prop
  | 0 => fun l a w => Region.ready md ops l = [] ∧ Q .normal a w
  | f + 1 => fun l a w => (Region.ready md ops l = [] → Q .normal a w) ∧
      ∀ i ∈ Region.ready md ops l, wpOp P ops Q i (fun a' w' => (Gone n (l.setIfInBounds i true) ∨ S w') ∧ AnyW P md ops Q S n f (l.setIfInBounds i true) a' w') a w
theorem AnyW.any (f : Nat) : ∀ (l : Array Bool) (a : Act) (w : World), AnyW P md ops Q S n f l a w → wpAny P md ops Q f l a w := by
  induction f with
  | zero => exact fun l a w h => h
  | succ f ih => exact fun l a w h => ⟨h.1, fun i hi => wpOp_mono (fun a' w' g => ih _ a' w' g.2) (h.2 i hi)⟩
/-- all late ones wait for i -/
def lateW (md : Region.Mode) (ops : Array Oper) (n : Nat → Bool) (i : Nat) : Bool := (List.range ops.size).all fun j => !n j || Region.waitsFor md ops j i
theorem AnyW.take_aux {i : Nat} {oi : Oper} {v : Value} (hi : ops[i]? = some oi) (hsel : ∀ (j : Nat) (o : Oper) cs b, ops[j]? = some o → o.op ≠ .select cs b)
    (hQ : ∀ c a w, Q (.panic c) (a.put oi.dst v) w → Q (.panic c) a w) (hn : lateW md ops n i = true) (hni : n i = false) (f : Nat) :
    ∀ (l : Array Bool) (a : Act) (w : World), Alone md ops l i oi → i ∈ Region.ready md ops l → ¬ Gone n l → YieldsIf P ops S oi v a → S w →
      AnyW P md ops Q S n f (l.setIfInBounds i true) (a.put oi.dst v) w → AnyW P md ops Q S n (f + 1) l a w := by
  have last : ∀ (l : Array Bool) (j : Nat), i ∈ Region.ready md ops l → n j = true → j ∉ Region.ready md ops l := by
    intro l j h1 hnj h2
    obtain ⟨_, o2, ho2, hall⟩ := mem_ready.1 h2
    have hjs : j < ops.size := (Array.getElem?_eq_some_iff.1 ho2).1
    have hw : Region.waitsFor md ops j i = true := by
      have := List.all_eq_true.1 hn j (List.mem_range.2 hjs)
      rw [Bool.or_eq_true] at this
      exact this.resolve_left (by rw [hnj]; decide)
    obtain ⟨on, hon, e, he, hb, heq⟩ := Region.waitsFor_spec hw
    obtain rfl : o2 = on := Option.some.inj (ho2.symm.trans hon)
    have h3 := hall e he hb
    rw [heq, unlisted (mem_ready.1 h1).1] at h3
    cases h3
  induction f with
  | zero =>
    intro l a w _ hr _ hy hS H
    refine ⟨fun h => (by rw [h] at hr; cases hr), fun j hj => ?_⟩
    by_cases e : j = i
    · subst e
      exact hy.wpOp hi hS ⟨.inr hS, H⟩
    · have hj2 := ready_mono hj e
      rw [H.1] at hj2
      cases hj2
  | succ f ih =>
    intro l a w hA hr hG hy hS H
    refine ⟨fun h => (by rw [h] at hr; cases hr), fun j hj => ?_⟩
    by_cases e : j = i
    · subst e
      exact hy.wpOp hi hS ⟨.inr hS, H⟩
    obtain ⟨hju, oj, hoj, hall⟩ := mem_ready.1 hj
    have hno : ∀ e ∈ oj.after, Region.binds md e = true → e.on ≠ i := by
      intro e he hb heq
      have h3 := hall e he hb
      rw [heq, unlisted (mem_ready.1 hr).1] at h3
      cases h3
    have hjn : n j = false := by
      cases h : n j with
      | false => rfl
      | true => exact absurd hj (last l j hr h)
    have hGj : ¬ Gone n (l.setIfInBounds j true) := fun h => hG (h.unset hjn)
    have step := wpOp_putIf hoj (hA j oj hoj e hju hno) (fun cs b => hsel i oi cs b hi) (fun cs b => hsel j oj cs b hoj) hQ hy (H.2 j (ready_mono hj e))
    refine wpOp_mono (fun a' w' g => ?_) step
    have hS' : S w' := g.2.1.resolve_left (fun h => hG (Gone.unset hni (h.unset hjn)))
    refine ⟨.inr hS', ih _ a' w' (hA.set hju) (ready_mono hr (Ne.symm e)) hGj g.1 hS' ?_⟩
    rw [Array.setIfInBounds_comm _ _ e]
    exact g.2.2
/-- one that reads no memory -/
theorem AnyW.take_free {i : Nat} {oi : Oper} {v : Value} (hi : ops[i]? = some oi) (hsel : ∀ (j : Nat) (o : Oper) cs b, ops[j]? = some o → o.op ≠ .select cs b)
    (hQ : ∀ c a w, Q (.panic c) (a.put oi.dst v) w → Q (.panic c) a w) (hni : n i = false) (f : Nat) :
    ∀ (l : Array Bool) (a : Act) (w : World), Alone md ops l i oi → i ∈ Region.ready md ops l → YieldsIf P ops (fun _ => True) oi v a → (Gone n l ∨ S w) →
      AnyW P md ops Q S n f (l.setIfInBounds i true) (a.put oi.dst v) w → AnyW P md ops Q S n (f + 1) l a w := by
  induction f with
  | zero =>
    intro l a w _ hr hy hS H
    refine ⟨fun h => (by rw [h] at hr; cases hr), fun j hj => ?_⟩
    by_cases e : j = i
    · subst e
      exact hy.wpOp hi trivial ⟨hS.imp (fun h => h.set j) id, H⟩
    · have hj2 := ready_mono hj e
      rw [H.1] at hj2
      cases hj2
  | succ f ih =>
    intro l a w hA hr hy hS H
    refine ⟨fun h => (by rw [h] at hr; cases hr), fun j hj => ?_⟩
    by_cases e : j = i
    · subst e
      exact hy.wpOp hi trivial ⟨hS.imp (fun h => h.set j) id, H⟩
    obtain ⟨hju, oj, hoj, hall⟩ := mem_ready.1 hj
    have hno : ∀ e ∈ oj.after, Region.binds md e = true → e.on ≠ i := by
      intro e he hb heq
      have h3 := hall e he hb
      rw [heq, unlisted (mem_ready.1 hr).1] at h3
      cases h3
    have step := wpOp_putIf hoj (hA j oj hoj e hju hno) (fun cs b => hsel i oi cs b hi) (fun cs b => hsel j oj cs b hoj) hQ hy (H.2 j (ready_mono hj e))
    refine wpOp_mono (fun a' w' g => ?_) step
    have hS' : Gone n (l.setIfInBounds j true) ∨ S w' := g.2.1.imp (fun h => by
      rw [Array.setIfInBounds_comm _ _ (Ne.symm e)] at h
      exact h.unset hni) id
    refine ⟨hS', ih _ a' w' (hA.set hju) (ready_mono hr (Ne.symm e)) g.1 hS' ?_⟩
    rw [Array.setIfInBounds_comm _ _ e]
    exact g.2.2
/-- one operation alone may come up -/
theorem AnyW.one (i : Nat) {o : Oper} {f : Nat} {l : Array Bool} {a : Act} {w : World} (hr : Region.ready md ops l = [i]) (ho : ops[i]? = some o)
    (h : ∀ K : Act → World → Prop, Shut (∀ a w, (Gone n (l.setIfInBounds i true) ∨ S w) → ((Gone n (l.setIfInBounds i true) ∨ S w) → AnyW P md ops Q S n f (l.setIfInBounds i true) a w) → K a w) → if Region.wanted o (yielded ops a.tmps) = true then Oper.wp P o a w K Q else K (a.put o.dst undef) w) :
    AnyW P md ops Q S n (f + 1) l a w := by
  refine ⟨fun h0 => (by rw [h0] at hr; cases hr), fun j hj => ?_⟩
  rw [hr] at hj
  obtain rfl := List.mem_singleton.1 hj
  exact wpOp_step ho (fun K hK => h K (fun a w hS hW => hK a w ⟨hS, hW hS⟩))
theorem AnyW.next {i : Nat} {oi : Oper} {d : Tmp} {v : Value} {f : Nat} {l : Array Bool} {ts : Array Value} {ds : List Deferred} {w : World} (hq : QuietP Q) (hs : Region.noSelect ops = true) (hS : S w) (hi : ops[i]? = some oi) (hd : oi.dst = some d)
    (hk : (Region.free md ops l i && ((Region.ready md ops l).contains i && (lateW md ops n i && (!n i && notGone n l)))) = true) (hy : YieldsIf P ops S oi v ⟨ts, ds⟩)
    (h : AnyW P md ops Q S n f (l.setIfInBounds i true) ⟨ts.setIfInBounds d v, ds⟩ w) : AnyW P md ops Q S n (f + 1) l ⟨ts, ds⟩ w := by
  simp only [Bool.and_eq_true, Bool.not_eq_true'] at hk
  refine AnyW.take_aux hi (Region.noSelect_spec hs) (fun c a w h => hq c a _ w (put_defers _ _ _) h) hk.2.2.1 hk.2.2.2.1 f l _ w (fun j oj h1 h2 h3 h4 => Region.free_spec hi hk.1 j oj h1 h2 h3 h4) (by simpa using hk.2.1) (notGone.spec hk.2.2.2.2) hy hS ?_
  rw [hd]
  exact h
theorem AnyW.nextT {i : Nat} {oi : Oper} {d : Tmp} {v : Value} {f : Nat} {l : Array Bool} {ts : Array Value} {ds : List Deferred} {w : World} (hq : QuietP Q) (hs : Region.noSelect ops = true) (hS : Gone n l ∨ S w) (hi : ops[i]? = some oi) (hd : oi.dst = some d)
    (hk : (Region.free md ops l i && ((Region.ready md ops l).contains i && !n i)) = true) (hy : YieldsIf P ops (fun _ => True) oi v ⟨ts, ds⟩)
    (h : AnyW P md ops Q S n f (l.setIfInBounds i true) ⟨ts.setIfInBounds d v, ds⟩ w) : AnyW P md ops Q S n (f + 1) l ⟨ts, ds⟩ w := by
  simp only [Bool.and_eq_true, Bool.not_eq_true'] at hk
  refine AnyW.take_free hi (Region.noSelect_spec hs) (fun c a w h => hq c a _ w (put_defers _ _ _) h) hk.2.2 f l _ w (fun j oj h1 h2 h3 h4 => Region.free_spec hi hk.1 j oj h1 h2 h3 h4) (by simpa using hk.2.1) hy hS ?_
  rw [hd]
  exact h
theorem AnyW.regionQ {id : Nat} {a : Act} {w : World} (n : Nat → Bool) (N : Nat) (S : World → Prop) (hN : ops.size = N) (hm : P.follows .mixedOrders = true) (hs : Region.noSelect ops = true) (hq : QuietP Q) (hS : S w.drew)
    (h : ∀ Q' : Exit → Act → World → Prop, Shut (∀ a w, Q .normal a w → Q' .normal a w) → QuietP Q' → Region.noSelect ops = true → S w.drew → AnyW P .any ops Q' S n N (Array.replicate N false) a w.drew) : (Code.region id ops true).wp P Q a w :=
  have h0 : ∀ a w, Q .normal a w → Q .normal a w := fun _ _ h => h
  by subst hN; exact wp_region_any hm (AnyW.any _ _ _ _ (h Q h0 hq hs hS))
theorem AnyW.done {f : Nat} {l : Array Bool} {a : Act} {w : World} (hr : Region.ready md ops l = []) (h : Q .normal a w) : AnyW P md ops Q S n f l a w := by
  cases f with
  | zero => exact ⟨hr, h⟩
  | succ f => exact ⟨fun _ => h, fun i hi => by rw [hr] at hi; cases hi⟩
def USomeW (P : Program) (md : Region.Mode) (ops : Array Oper) (Q : Exit → Act → World → Prop) (S : World → Prop) (n : Nat → Bool) (f : Nat) (l : Array Bool) (a : Act) (w : World) (i : Nat) : Prop :=
  wpOp P ops Q i (fun a' w' => (Gone n (l.setIfInBounds i true) ∨ S w') ∧ AnyW P md ops Q S n f (l.setIfInBounds i true) a' w') a w
theorem USomeW.mk {f : Nat} {l : Array Bool} {a : Act} {w : World} {i : Nat} {o : Oper} (ho : ops[i]? = some o)
    (h : ∀ K : Act → World → Prop, Shut (∀ a w, (Gone n (l.setIfInBounds i true) ∨ S w) → ((Gone n (l.setIfInBounds i true) ∨ S w) → AnyW P md ops Q S n f (l.setIfInBounds i true) a w) → K a w) → if Region.wanted o (yielded ops a.tmps) = true then Oper.wp P o a w K Q else K (a.put o.dst undef) w) : USomeW P md ops Q S n f l a w i :=
  wpOp_step ho (fun K hK => h K (fun a w hS hW => hK a w ⟨hS, hW hS⟩))
theorem AnyW.two {f : Nat} {l : Array Bool} {a : Act} {w : World} {i j : Nat} (hr : Region.ready md ops l = [i, j]) (h1 : USomeW P md ops Q S n f l a w i) (h2 : USomeW P md ops Q S n f l a w j) : AnyW P md ops Q S n (f + 1) l a w :=
  ⟨fun h0 => (by rw [h0] at hr; cases hr), fun k hk => by
    rw [hr] at hk
    simp only [List.mem_cons, List.not_mem_nil, or_false] at hk
    rcases hk with rfl | rfl
    · exact h1
    · exact h2⟩
end
end Go.Proofs.YtilhnjecnhpmlaaDoor
namespace Go.Proofs.YtilhnjecnhpmlaaDoor
open Go.RowKit

/-- the first i and the last i are turned -/
def RevAt (l m : List Dat) (i : Nat) : Prop := m.length = l.length ∧ ∀ k, k < l.length → m[k]? = if k < i ∨ l.length - i ≤ k then l[l.length - 1 - k]? else l[k]?
theorem RevAt.zero (l : List Dat) : RevAt l l 0 := ⟨rfl, fun k hk => by rw [if_neg (by omega)]⟩
theorem RevAt.step {l m : List Dat} {i j : Nat} (h : RevAt l m i) (hj : j = l.length - 1 - i) (hi : 2 * i + 1 < l.length) (h1 : i < m.length) (h2 : j < m.length) : RevAt l ((m.set i m[j]).set j m[i]) (i + 1) := by
  obtain ⟨hl, h⟩ := h
  refine ⟨by simp [hl], fun k hk => ?_⟩
  have e1 : m[j]? = some m[j] := List.getElem?_eq_getElem h2
  have e2 : m[i]? = some m[i] := List.getElem?_eq_getElem h1
  have a1 := h j (by omega)
  have a2 := h i (by omega)
  rw [if_neg (by omega)] at a1 a2
  rw [List.getElem?_set, List.getElem?_set]
  by_cases hkj : j = k
  · subst hkj
    rw [if_pos rfl, if_pos (by rw [List.length_set]; omega), if_pos (by omega), ← e2, a2]
    congr 1; omega
  · rw [if_neg hkj]
    by_cases hki : i = k
    · subst hki
      rw [if_pos rfl, if_pos h1, if_pos (by omega), ← e1, a1, hj]
    · rw [if_neg hki, h k hk]
      by_cases hc : k < i ∨ l.length - i ≤ k
      · rw [if_pos hc, if_pos (by omega)]
      · rw [if_neg hc, if_neg (by omega)]
theorem RevAt.end {l m : List Dat} {i : Nat} (h : RevAt l m i) (hi : l.length ≤ 2 * i + 1) : m = l.reverse := by
  obtain ⟨hl, h⟩ := h
  refine List.ext_getElem? fun k => ?_
  by_cases hk : k < l.length
  · rw [h k hk, List.getElem?_reverse hk]
    by_cases hc : k < i ∨ l.length - i ≤ k
    · rw [if_pos hc]
    · rw [if_neg hc]
      congr 1; omega
  · rw [List.getElem?_eq_none (by omega), List.getElem?_eq_none (by rw [List.length_reverse]; omega)]
set_option maxRecDepth 100000 in
set_option maxHeartbeats 8000000 in
theorem srev_any (A : Option Addr) (c : Nat) (l : List Dat) (g o : Nat) (w : World) (Q : Nat → Prop) (hA : 0 < l.length → A = some ⟨g, o, none⟩) (hQ : ∀ b, Q b → b < w.heap.size ∧ b ≠ g) (M : RowM w Q g o l) (hb : l.length ≤ 35184372088832) :
    Calls Tryd.prog 31 #[.slice A l.length c] w fun e w' => e = .returned (.tuple #[]) ∧ RowM w' Q g o l.reverse ∧ Below g w w' ∧ w'.heap.size = w.heap.size := by
  have hwl : IntKind.i64.wrap ((l.length : Int) - 1) = (l.length : Int) - 1 := IntWalk.i64_in _ (by omega)
  go_enter Tryd.func31, Tryd.ntmps31
  go_upto_region 1 with fail
  clear hwl
  have B0 := Below.refl g w
  go_loopg [2, 3] l.length (fun gk s2 s3 wx => ∃ (i : Nat) (m : List Dat), s2 = .int .i64 (i : Int) ∧ s3 = .int .i64 ((l.length : Int) - 1 - (i : Int)) ∧ i + gk = l.length ∧ RevAt l m i ∧ RowM wx Q g o m ∧ Below g w wx ∧ wx.heap.size = w.heap.size)
  case atStart => exact ⟨0, l, rfl, by simp, by omega, .zero l, M, B0, rfl⟩
  case round =>
    clear M B0
    obtain ⟨i, m, rfl, rfl, hgk, hr, M, B, hs⟩ := hrel
    by_cases hij : 2 * i + 1 < l.length
    · have hA := hA (by omega)
      subst hA
      obtain ⟨j, hj⟩ : ∃ j, j = l.length - 1 - i := ⟨_, rfl⟩
      have hjz : (l.length : Int) - 1 - (i : Int) = (j : Int) := by omega
      rw [hjz]
      have h1 : i < m.length := by rw [hr.1]; omega
      have h2 : j < m.length := by rw [hr.1]; omega
      obtain ⟨cx, lx, sx, rx⟩ := M.at_ h2
      obtain ⟨cy, ly, sy, ry⟩ := M.at_ h1
      match cx, lx, cy, ly with
      | [x0, x1, x2, x3, x4, x5, x6, x7, x8, x9, x10], _, [y0, y1, y2, y3, y4, y5, y6, y7, y8, y9, y10], _ =>
      obtain ⟨_, e2, _, ox⟩ := rx.agg
      obtain rfl := congrArg Array.toList (Value.agg.inj e2)
      obtain ⟨_, e3, _, oy⟩ := ry.agg
      obtain rfl := congrArg Array.toList (Value.agg.inj e3)
      clear e2 e3
      have hst := hr.step hj hij h1 h2
      have hji : (i : Int) + (j : Int) + 1 = (l.length : Int) := by omega
      have hz3 : (i : Int) < (j : Int) := by omega
      have hz2 : (j : Int) < (l.length : Int) := by omega
      replace hj := Lib.hid hj
      replace hji := Lib.hid hji
      have hz1 : (i : Int) < (l.length : Int) := by omega
      have hQ1 : ∀ b, Q b → b < wr.heap.size ∧ b ≠ g := fun b hb => ⟨by rw [hs]; exact (hQ b hb).1, (hQ b hb).2⟩
      go_upto_region 3 with fail
      have Dw := (Below.refl wr.heap.size wr).drew
      have M : RowM wr.drew Q g o m := M.keep (fun b hb => (hQ1 b hb).1) Dw
      have sx : SO wr.drew g (o + j * 11) _ := sx
      have sy : SO wr.drew g (o + i * 11) _ := sy
      have rx : RDP wr.drew Q m[j] (.agg #[x0, x1, x2, x3, x4, x5, x6, x7, x8, x9, x10]) := rx.keep (fun b hb => (hQ1 b hb).1) Dw
      have ry : RDP wr.drew Q m[i] (.agg #[y0, y1, y2, y3, y4, y5, y6, y7, y8, y9, y10]) := ry.keep (fun b hb => (hQ1 b hb).1) Dw
      clear Dw
      have B : Below g w wr.drew := bdN B 1
      have hs : wr.drew.heap.size = w.heap.size := hs
      have hQ1 : ∀ b, Q b → b < wr.drew.heap.size ∧ b ≠ g := hQ1
      refine AnyW.regionQ (fun j => j == 13 || j == 15) 16 (fun w' => w'.rangeAt g (o + j * 11) [x0, x1, x2, x3, x4, x5, x6, x7, x8, x9, x10] ∧ w'.rangeAt g (o + i * 11) [y0, y1, y2, y3, y4, y5, y6, y7, y8, y9, y10]) rfl (by kernel_rfl) (by kernel_rfl) (by repeat (first | refine quiet_then ?_ | refine quiet_block ?_ | exact quiet_body)) ⟨sx.range, sy.range⟩ (fun Q' hQK hq hns hHeld => ?_)
      generalize wr.drew = w4 at *

      refine AnyW.nextT (i := 0) (v := ?_) hq hns (.inr hHeld) rfl rfl (by kernel_rfl) (Or.inl ⟨by rfl, ?_⟩) ?_
      rotate_left
      · intro w' _; go_simp <;> with_reducible rfl
      try simp only [List.setIfInBounds_toArray, List.set_cons_zero, List.set_cons_succ]
      refine AnyW.nextT (i := 1) (v := ?_) hq hns (.inr hHeld) rfl rfl (by kernel_rfl) (Or.inl ⟨by rfl, ?_⟩) ?_
      rotate_left
      · intro w' _; go_simp <;> with_reducible rfl
      try simp only [List.setIfInBounds_toArray, List.set_cons_zero, List.set_cons_succ]
      refine AnyW.nextT (i := 2) (v := ?_) hq hns (.inr hHeld) rfl rfl (by kernel_rfl) (Or.inl ⟨by rfl, ?_⟩) ?_
      rotate_left
      · intro w' _; go_simp <;> with_reducible rfl
      try simp only [List.setIfInBounds_toArray, List.set_cons_zero, List.set_cons_succ]
      refine AnyW.nextT (i := 3) (v := ?_) hq hns (.inr hHeld) rfl rfl (by kernel_rfl) (Or.inl ⟨by rfl, ?_⟩) ?_
      rotate_left
      · intro w' _; go_simp <;> with_reducible rfl
      try simp only [List.setIfInBounds_toArray, List.set_cons_zero, List.set_cons_succ]
      refine AnyW.nextT (i := 4) (v := ?_) hq hns (.inr hHeld) rfl rfl (by kernel_rfl) (Or.inl ⟨by rfl, ?_⟩) ?_
      rotate_left
      · intro w' _; go_simp <;> with_reducible rfl
      try simp only [List.setIfInBounds_toArray, List.set_cons_zero, List.set_cons_succ]
      refine AnyW.nextT (i := 5) (v := ?_) hq hns (.inr hHeld) rfl rfl (by kernel_rfl) (Or.inl ⟨by rfl, ?_⟩) ?_
      rotate_left
      · intro w' _; go_simp <;> with_reducible rfl
      try simp only [List.setIfInBounds_toArray, List.set_cons_zero, List.set_cons_succ]
      refine AnyW.nextT (i := 6) (v := ?_) hq hns (.inr hHeld) rfl rfl (by kernel_rfl) (Or.inl ⟨by rfl, ?_⟩) ?_
      rotate_left
      · intro w' _; go_simp <;> with_reducible rfl
      try simp only [List.setIfInBounds_toArray, List.set_cons_zero, List.set_cons_succ]
      refine AnyW.next (i := 7) (v := .agg [x0, x1, x2, x3, x4, x5, x6, x7, x8, x9, x10].toArray) hq hns hHeld rfl rfl (by kernel_rfl) (yieldsIf_load_mid (by rfl) 31 (.tmp 20) rfl g (o + j * 11) rfl [x0, x1, x2, x3, x4, x5, x6, x7, x8, x9, x10] _ (fun w' h => h.1) Tryd.underlying31 rfl (infoD.trans (by rfl))) ?_
      try simp only [List.setIfInBounds_toArray, List.set_cons_zero, List.set_cons_succ]
      refine AnyW.nextT (i := 8) (v := ?_) hq hns (.inr hHeld) rfl rfl (by kernel_rfl) (Or.inl ⟨by rfl, ?_⟩) ?_
      rotate_left
      · intro w' _; go_simp <;> with_reducible rfl
      try simp only [List.setIfInBounds_toArray, List.set_cons_zero, List.set_cons_succ]
      refine AnyW.nextT (i := 9) (v := ?_) hq hns (.inr hHeld) rfl rfl (by kernel_rfl) (Or.inl ⟨by rfl, ?_⟩) ?_
      rotate_left
      · intro w' _; go_simp <;> with_reducible rfl
      try simp only [List.setIfInBounds_toArray, List.set_cons_zero, List.set_cons_succ]
      refine AnyW.nextT (i := 10) (v := ?_) hq hns (.inr hHeld) rfl rfl (by kernel_rfl) (Or.inl ⟨by rfl, ?_⟩) ?_
      rotate_left
      · intro w' _; go_simp <;> with_reducible rfl
      try simp only [List.setIfInBounds_toArray, List.set_cons_zero, List.set_cons_succ]
      refine AnyW.next (i := 11) (v := .agg [y0, y1, y2, y3, y4, y5, y6, y7, y8, y9, y10].toArray) hq hns hHeld rfl rfl (by kernel_rfl) (yieldsIf_load_mid (by rfl) 31 (.tmp 24) rfl g (o + i * 11) rfl [y0, y1, y2, y3, y4, y5, y6, y7, y8, y9, y10] _ (fun w' h => h.2) Tryd.underlying31 rfl (infoD.trans (by rfl))) ?_
      try simp only [List.setIfInBounds_toArray, List.set_cons_zero, List.set_cons_succ]
      refine AnyW.nextT (i := 12) (v := ?_) hq hns (.inr hHeld) rfl rfl (by kernel_rfl) (Or.inl ⟨by rfl, ?_⟩) ?_
      rotate_left
      · intro w' _; go_simp <;> with_reducible rfl
      try simp only [List.setIfInBounds_toArray, List.set_cons_zero, List.set_cons_succ]
      have th1 : w4.there g (o + i * 11) 11 := fun q hq => by
        have := sy.1 q _ (List.getElem?_eq_getElem (by simpa using hq))
        exact ⟨by rw [this.1]; rfl, this.2⟩
      refine AnyW.one 13 (by kernel_rfl) rfl (fun K' hK => ?_)
      refine step_stDo rfl rfl (.tmp 26) (.tmp 21) rfl g (o + i * 11) rfl [x0, x1, x2, x3, x4, x5, x6, x7, x8, x9, x10] rfl rfl th1 ox ?_
      refine hK.out _ _ (.inl ⟨13, rfl, rfl⟩) (fun _ => ?_)
      clear hK K'
      try simp only [List.setIfInBounds_toArray, List.set_cons_zero, List.set_cons_succ]
      have M2 := M.set hQ1 h1 (y := m[j]) rfl rx
      obtain ⟨cz, lz, sz, -⟩ := M2.at_ (i := j) (by rw [List.length_set]; exact h2)
      have ry2 : RDP (w4.setCells g (o + i * 11) [x0, x1, x2, x3, x4, x5, x6, x7, x8, x9, x10]) Q m[i] (.agg #[y0, y1, y2, y3, y4, y5, y6, y7, y8, y9, y10]) := ry.step (fun b hb => World.heap_setCells_other w4 g _ _ (hQ1 b hb).1 (hQ1 b hb).2) (fun _ h => h)
      have B2 := below_cso B (b := g) (Nat.le_refl _) (o + i * 11) [x0, x1, x2, x3, x4, x5, x6, x7, x8, x9, x10]
      have hs2 : (w4.setCells g (o + i * 11) [x0, x1, x2, x3, x4, x5, x6, x7, x8, x9, x10]).heap.size = w.heap.size := by rw [size_sc]; exact hs
      have th2 : (w4.setCells g (o + i * 11) [x0, x1, x2, x3, x4, x5, x6, x7, x8, x9, x10]).there g (o + j * 11) 11 := fun q hq => by
        have := sz.1 q _ (List.getElem?_eq_getElem (by omega))
        exact ⟨by rw [this.1]; rfl, this.2⟩
      generalize w4.setCells g (o + i * 11) [x0, x1, x2, x3, x4, x5, x6, x7, x8, x9, x10] = w5 at *

      refine AnyW.nextT (i := 14) (v := ?_) hq hns (.inl ⟨13, rfl, rfl⟩) rfl rfl (by kernel_rfl) (Or.inl ⟨by rfl, ?_⟩) ?_
      rotate_left
      · intro w' _; go_simp <;> with_reducible rfl
      try simp only [List.setIfInBounds_toArray, List.set_cons_zero, List.set_cons_succ]
      refine AnyW.one 15 (by kernel_rfl) rfl (fun K' hK => ?_)
      refine step_stDo rfl rfl (.tmp 27) (.tmp 25) rfl g (o + j * 11) rfl [y0, y1, y2, y3, y4, y5, y6, y7, y8, y9, y10] rfl rfl th2 oy ?_
      refine hK.out _ _ (.inl ⟨15, rfl, rfl⟩) (fun _ => ?_)
      clear hK K'
      try simp only [List.setIfInBounds_toArray, List.set_cons_zero, List.set_cons_succ]
      refine AnyW.done (by kernel_rfl) (hQK.out _ _ ?_)
      clear hQK hq hns hHeld
      have M3 := M2.set (fun b hb => ⟨by rw [hs2]; exact (hQ b hb).1, (hQ b hb).2⟩) (i := j) (by rw [List.length_set]; exact h2) (y := m[i]) rfl ry2
      have B3 := below_cso B2 (b := g) (Nat.le_refl _) (o + j * 11) [y0, y1, y2, y3, y4, y5, y6, y7, y8, y9, y10]
      have hs3 : (w5.setCells g (o + j * 11) [y0, y1, y2, y3, y4, y5, y6, y7, y8, y9, y10]).heap.size = w.heap.size := by rw [size_sc]; exact hs2
      generalize w5.setCells g (o + j * 11) [y0, y1, y2, y3, y4, y5, y6, y7, y8, y9, y10] = w6 at *
      go_wp2_with fail
      go_roundg (l.length - (i + 1))
      case measure => omega
      case rel => exact ⟨i + 1, _, by simp, by have := hji.out; congr 1; omega, by omega, hst, M3, B3, hs3⟩
    · have hz : ¬ (i : Int) < (l.length : Int) - 1 - (i : Int) := by omega
      go_wp2_with fail
      go_end0
      rw [hr.end (by omega)] at M
      exact ⟨rfl, M, B, hs⟩

end Go.Proofs.YtilhnjecnhpmlaaDoor
