/- Merged texts: DatL, DatN, DatP, DatQ, DatR. -/
import Derived.Test.YtilhnjecnhpmlaaDoorGH
import Derived.Test.YtilhnjecnhpmlaaDoorShelf
import Derived.Test.YtilhnjecnhpmlaaDoorGI
import Derived.Test.YtilhnjecnhpmlaaDoorGF
import Derived.Laws.Cover1
import Derived.Test.YtilhnjecnhpmlaaDoorGJ
import Derived.Laws.BytesArg
namespace Go.Proofs.YtilhnjecnhpmlaaDoor
open Go.RowKit

theorem cmpInt_any (x y : Int) (w : World) : Calls Tryd.prog 48 #[.int .i64 x, .int .i64 y] w fun e w' => e = .returned (.int .i64 (cmpZ x y)) ∧ w = w' := by
  refine (Tryd.cmp_Compare_int x y w).mono ?_
  rintro e w' ⟨rfl, rfl⟩
  refine ⟨?_, rfl⟩
  unfold Lib.compareInt cmpZ
  split <;> (try split) <;> (try split) <;> first | rfl | omega
end Go.Proofs.YtilhnjecnhpmlaaDoor
namespace Go.Proofs.YtilhnjecnhpmlaaDoor
open Go.RowKit

set_option maxHeartbeats 4000000 in
theorem cmpOr_two (g : Nat) (x y : Int) (c : Nat) (w : World) (hS : SB w g [.int .i64 x, .int .i64 y]) :
    Calls Tryd.prog 64 #[.slice (some ⟨g, 0, none⟩) 2 c] w fun e w' => e = .returned (.int .i64 (if x ≠ 0 then x else y)) ∧ w = w' := by
  have k0 := hS.cell 0
  have k1 := hS.cell 1
  obtain ⟨z, hz⟩ : ∃ z, Hid ((if x ≠ 0 then x else y) = z) := ⟨_, rfl⟩
  rw [hz.out]
  go_enter Tryd.func64, Tryd.ntmps64
  go_wp2_with fail
  go_loopg [8] 2 (fun gk s8 wx => ∃ i : Nat, s8 = .int .i64 (i : Int) ∧ i ≤ 2 ∧ 2 - i = gk ∧ (1 ≤ i → x = 0) ∧ (2 ≤ i → y = 0) ∧ w = wx)
  case atStart => exact ⟨0, rfl, by omega, rfl, fun h => absurd h (by omega), fun h => absurd h (by omega), rfl⟩
  case round =>
    obtain ⟨i, rfl, hi, hgk, h1, h2, rfl⟩ := hrel
    match i, hi with
    | 0, _ =>
      clear h1 h2
      by_cases hx : x = 0
      · have t1 : (x != 0) = false := by rw [hx]; rfl
        replace hx := Lib.hid hx
        go_wp2_with fail
        go_roundg 1
        case measure => omega
        case rel => exact ⟨1, rfl, by omega, rfl, fun _ => hx.out, fun h => absurd h (by omega), rfl⟩
      · have t1 : (x != 0) = true := bne_iff_ne.2 hx
        have hf : Hid (z = x) := Lib.hid (by rw [← hz.out, if_pos hx])
        clear hx hz
        go_wp2_with fail
        go_ret
        exact ⟨by rw [hf.out]; rfl, rfl⟩
    | 1, _ =>
      replace h1 := Lib.hid (h1 (by omega))
      clear h2
      by_cases hy : y = 0
      · have t1 : (y != 0) = false := by rw [hy]; rfl
        replace hy := Lib.hid hy
        go_wp2_with fail
        go_roundg 0
        case measure => omega
        case rel => exact ⟨2, rfl, by omega, rfl, fun _ => h1.out, fun _ => hy.out, rfl⟩
      · have t1 : (y != 0) = true := bne_iff_ne.2 hy
        have hf : Hid (z = y) := Lib.hid (by rw [← hz.out, if_neg (by simp [h1.out])])
        clear hy hz
        go_wp2_with fail
        go_ret
        exact ⟨by rw [hf.out]; rfl, rfl⟩
    | 2, _ =>
      have hf : Hid (z = 0) := Lib.hid (by rw [← hz.out, h1 (by omega), h2 (by omega)]; rfl)
      clear h1 h2 hz
      go_wp2_with fail
      go_ret
      exact ⟨by rw [hf.out]; rfl, rfl⟩
end Go.Proofs.YtilhnjecnhpmlaaDoor
namespace Go.Proofs.YtilhnjecnhpmlaaDoor
open Go.RowKit

theorem cmpL_less : ∀ {a b : List UInt8}, Op.bytesLess a b = true → cmpL (a.map (·.toNat)) (b.map (·.toNat)) = -1
  | _, [], h => by simp [Op.bytesLess] at h
  | [], _ :: _, _ => rfl
  | x :: xs, y :: ys, h => by
    simp only [Op.bytesLess, Bool.or_eq_true, decide_eq_true_eq, Bool.and_eq_true, beq_iff_eq] at h
    simp only [List.map_cons, cmpL]
    rcases h with h | ⟨rfl, h⟩
    · rw [if_pos (UInt8.lt_iff_toNat_lt.1 h)]
    · rw [if_neg (by omega), if_neg (by omega)]; exact cmpL_less h
theorem cmpL_more : ∀ {a b : List UInt8}, Op.bytesLess a b = false → a ≠ b → cmpL (a.map (·.toNat)) (b.map (·.toNat)) = 1
  | [], [], _, h => absurd rfl h
  | _ :: _, [], _, _ => rfl
  | [], _ :: _, h, _ => by simp [Op.bytesLess] at h
  | x :: xs, y :: ys, h, hne => by
    simp only [Op.bytesLess, Bool.or_eq_false_iff, decide_eq_false_iff_not, Bool.and_eq_false_iff, beq_eq_false_iff_ne] at h
    simp only [List.map_cons, cmpL]
    have h1 : ¬ x.toNat < y.toNat := fun e => h.1 (UInt8.lt_iff_toNat_lt.2 e)
    rw [if_neg h1]
    by_cases e : x = y
    · subst e
      rw [if_neg (by omega)]
      exact cmpL_more (h.2.resolve_left (by simp)) (fun e => hne (by rw [e]))
    · have : x.toNat ≠ y.toNat := fun q => e (UInt8.toNat_inj.1 q)
      rw [if_pos (by omega)]
theorem nanS_any (s : ByteArray) (w : World) : Calls Tryd.prog 65 #[.string s] w fun e w' => e = .returned (.bool false) ∧ w = w' := by
  have t1 : (s.toList == s.toList) = true := by simp
  go_enter Tryd.func65, Tryd.ntmps65
  go_wp2_with fail
  go_ret
  exact ⟨rfl, rfl⟩
theorem cmpStr_any (s t : ByteArray) (w : World) : Calls Tryd.prog 50 #[.string s, .string t] w fun e w' => e = .returned (.int .i64 (cmpL (bytesN s) (bytesN t))) ∧ w = w' := by
  have n1 := nanS_any s w
  have n2 := nanS_any t w
  obtain ⟨z, hz⟩ : ∃ z, Hid (cmpL (bytesN s) (bytesN t) = z) := ⟨_, rfl⟩
  rw [hz.out]
  by_cases h1 : Op.bytesLess s.toList t.toList = true
  · have hf : Hid (z = -1) := Lib.hid (by rw [← hz.out]; rw [Lib.toList_data, Lib.toList_data] at h1; exact cmpL_less h1)
    clear hz
    go_enter Tryd.func50, Tryd.ntmps50
    go_wp2_with fail
    refine n1.mono ?_; rintro e w1 ⟨rfl, rfl⟩
    go_wp2_with fail
    refine n2.mono ?_; rintro e w1 ⟨rfl, rfl⟩
    go_wp2_with fail
    go_ret
    exact ⟨by rw [hf.out]; rfl, rfl⟩
  · have h1 : Op.bytesLess s.toList t.toList = false := by simpa using h1
    by_cases h2 : s.toList = t.toList
    · have hf : Hid (z = 0) := Lib.hid (by rw [← hz.out]; rw [Lib.toList_data, Lib.toList_data] at h2; unfold bytesN; rw [h2]; exact cmpL_self _)
      have h3 : (s.toList == t.toList) = true := by rw [h2]; simp
      clear hz h2
      go_enter Tryd.func50, Tryd.ntmps50
      go_wp2_with fail
      refine n1.mono ?_; rintro e w1 ⟨rfl, rfl⟩
      go_wp2_with fail
      refine n2.mono ?_; rintro e w1 ⟨rfl, rfl⟩
      go_wp2_with fail
      go_ret
      exact ⟨by rw [hf.out]; rfl, rfl⟩
    · have hf : Hid (z = 1) := Lib.hid (by rw [← hz.out]; rw [Lib.toList_data, Lib.toList_data] at h1 h2; exact cmpL_more h1 h2)
      have h3 : (s.toList == t.toList) = false := by simpa using h2
      clear hz h2
      go_enter Tryd.func50, Tryd.ntmps50
      go_wp2_with fail
      refine n1.mono ?_; rintro e w1 ⟨rfl, rfl⟩
      go_wp2_with fail
      refine n2.mono ?_; rintro e w1 ⟨rfl, rfl⟩
      go_wp2_with fail
      go_ret
      exact ⟨by rw [hf.out]; rfl, rfl⟩

/-- numbers' order: by the real part, then by the other -/
def numQ (r i r' i' : Rw) : Int := if cmpQ (qv r) (qv r') ≠ 0 then cmpQ (qv r) (qv r') else cmpQ (qv i) (qv i')
theorem chk_real {x y : Rat} (h1 : qw x ≤ 512) (h2 : qw y ≤ 512) : chkN2 true (rwq x) (rwq 0) (rwq y) (rwq 0) = 0 := by
  unfold chkN2
  rw [if_pos ⟨nB_rwq h1 (by decide +kernel), nB_rwq h2 (by decide +kernel)⟩, if_neg]
  have : (rwq 0).a.length = 0 := by decide +kernel
  omega
theorem ecmp_real (V U : Value) (x y : Rat) (w : World) (hV : VN w w.heap.size V (rwq x) (rwq 0)) (hU : VN w w.heap.size U (rwq y) (rwq 0)) (h1 : qw x ≤ 512) (h2 : qw y ≤ 512) :
    Calls Tryd.prog 63 #[V, U] w fun e w' => e = .returned (.tuple #[.int .i64 (cmpQ x y), .int .i64 0]) ∧ Below w.heap.size w w' := by
  have h := ecmp_any hV hU
  unfold qcmpA at h
  rw [if_pos (chk_real h1 h2), qv_rwq, qv_rwq] at h
  exact h
set_option maxRecDepth 100000 in
set_option maxHeartbeats 16000000 in
theorem number_ok (V U : Value) (x y u v : Rat) (w : World) (hV : VN w w.heap.size V (rwq x) (rwq y)) (hU : VN w w.heap.size U (rwq u) (rwq v)) (hx : qw x ≤ 512) (hy : qw y ≤ 512) (hu : qw u ≤ 512) (hv : qw v ≤ 512) :
    Calls Tryd.prog 49 #[V, U] w fun e w' => e = .returned (.int .i64 (if cmpQ x u ≠ 0 then cmpQ x u else cmpQ y v)) ∧ Below w.heap.size w w' := by
  obtain ⟨A1, c1, D1, d1, A2, c2, D2, d2, rfl, p1, p2, p3, p4⟩ := hV
  obtain ⟨E1, e1, F1, f1, E2, e2, F2, f2, rfl, p5, p6, p7, p8⟩ := hU
  have hc1 := fun V U w' h1 h2 => ecmp_real V U x u w' h1 h2 hx hu
  have hc2 := fun V U w' h1 h2 => ecmp_real V U y v w' h1 h2 hy hv
  obtain ⟨z, hz⟩ : ∃ z, Hid ((if cmpQ x u ≠ 0 then cmpQ x u else cmpQ y v) = z) := ⟨_, rfl⟩
  rw [hz.out]
  generalize cmpQ x u = k1 at *
  generalize cmpQ y v = k2' at *
  generalize rwq x = X at *
  generalize rwq y = Y at *
  generalize rwq u = Z at *
  generalize rwq v = T at *
  clear hx hy hu hv
  have k0 := T2.new w [.bool X.s, .slice A1 X.a.length c1, .slice D1 X.b.length d1, .bool Y.s, .slice A2 Y.a.length c2, .slice D2 Y.b.length d2] [.bool Z.s, .slice E1 Z.a.length e1, .slice F1 Z.b.length f1, .bool T.s, .slice E2 T.a.length e2, .slice F2 T.b.length f2] 28 28
  go_enter Tryd.func49, Tryd.ntmps49
  go_upto_region 1 with fail
  obtain ⟨W0, hW0⟩ : ∃ W0, W0 = (w.alloc (.cells #[.bool X.s, .slice A1 X.a.length c1, .slice D1 X.b.length d1, .bool Y.s, .slice A2 Y.a.length c2, .slice D2 Y.b.length d2] 28)).alloc (.cells #[.bool Z.s, .slice E1 Z.a.length e1, .slice F1 Z.b.length f1, .bool T.s, .slice E2 T.a.length e2, .slice F2 T.b.length f2] 28) := ⟨_, rfl⟩
  rw [← hW0] at k0 ⊢
  clear hW0
  go_wp2_with fail
  refine (int_any 0 W0 (by omega) (by omega)).mono ?_
  rintro e w1 ⟨G1, g1, H1, h1, G2, g2, H2, h2, rfl, -, -, o3, o4, B1⟩
  rw [show (((0 : Int) : Rat)) = 0 by rfl]
  have q3 := o3.rw
  have q4 := o4.rw
  clear o3 o4
  generalize rwq 0 = O at *
  have k1' := k0.nx B1
  have sM := SB.new w1 [.bool O.s, .slice G2 O.a.length g2, .slice H2 O.b.length h2] 26
  have BM := bal w1 (.cells #[.bool O.s, .slice G2 O.a.length g2, .slice H2 O.b.length h2] 26)
  have gN : w.heap.size + 1 < w1.heap.size := k1'.2.1.2
  have k2 := k1'.nx BM
  have q3' := st q3 BM
  have q4' := st q4 BM
  have hfd : ∀ w : World, (Instr.field 28 (.agg #[.bool O.s, .slice G1 O.a.length g1, .slice H1 O.b.length h1, .bool O.s, .slice G2 O.a.length g2, .slice H2 O.b.length h2]) 1).run Tryd.prog w = .ok (.agg #[.bool O.s, .slice G2 O.a.length g2, .slice H2 O.b.length h2]) w := fun _ => by kernel_rfl
  go_upto_region 2 with fail
  clear hfd q3 q4 k1' k0 B1
  obtain ⟨w2, hw2⟩ : ∃ w2, w2 = w1.alloc (.cells #[.bool O.s, .slice G2 O.a.length g2, .slice H2 O.b.length h2] 26) := ⟨_, rfl⟩
  rw [← hw2] at sM BM k2 q3' q4' ⊢
  clear hw2 BM
  generalize w1.heap.size = gb at *
  have i0 := k2.1.cell 0
  have i1 := k2.1.cell 1
  have i2 := k2.1.cell 2
  have j0 := k2.2.1.cell 0
  have j1 := k2.2.1.cell 1
  have j2 := k2.2.1.cell 2
  have m0 := sM.cell 0
  have m1 := sM.cell 1
  have m2 := sM.cell 2
  have C2 := k2.2.2
  go_wp2_with fail
  refine (hc1 _ _ w2 ⟨A1, c1, D1, d1, G2, g2, H2, h2, rfl, st p1 C2, st p2 C2, q3', q4'⟩ ⟨E1, e1, F1, f1, G2, g2, H2, h2, rfl, st p5 C2, st p6 C2, q3', q4'⟩).mono ?_
  rintro e w3 ⟨rfl, B3⟩
  clear i0 i1 i2 j0 j1 j2 m0 m1 m2 hc1
  have k3 := k2.nx B3
  have s3 := sM.nx B3
  have q33 := st q3' B3
  have q43 := st q4' B3
  have C3 := k3.2.2
  clear k2 sM q3' q4' B3 C2
  have i3 := k3.1.cell 3
  have i4 := k3.1.cell 4
  have i5 := k3.1.cell 5
  have j3 := k3.2.1.cell 3
  have j4 := k3.2.1.cell 4
  have j5 := k3.2.1.cell 5
  have m0 := s3.cell 0
  have m1 := s3.cell 1
  have m2 := s3.cell 2
  go_wp2_with fail
  refine (hc2 _ _ w3 ⟨A2, c2, D2, d2, G2, g2, H2, h2, rfl, st p3 C3, st p4 C3, q33, q43⟩ ⟨E2, e2, F2, f2, G2, g2, H2, h2, rfl, st p7 C3, st p8 C3, q33, q43⟩).mono ?_
  rintro e w4 ⟨rfl, B4⟩
  clear i3 i4 i5 j3 j4 j5 m0 m1 m2 hc2
  have C4 := bt C3 B4
  have B5 := bal w4 (.cells #[.int .i64 k1, .int .i64 k2'] 3)
  have S5 := SB.new w4 [.int .i64 k1, .int .i64 k2'] 3
  have ho := fun c => cmpOr_two _ k1 k2' c _ S5
  rw [hz.out] at ho
  clear hz
  go_wp2_with fail
  refine (ho _).mono ?_
  rintro e w5 ⟨rfl, rfl⟩
  go_wp2_with fail
  go_ret
  exact ⟨rfl, bt C4 B5⟩
theorem number_any {V U : Value} {r i r' i' : Rw} {w : World} (hV : VN w w.heap.size V r i) (hU : VN w w.heap.size U r' i') (h : nB r i = true) (h' : nB r' i' = true) :
    Calls Tryd.prog 49 #[V, U] w fun e w' => e = .returned (.int .i64 (numQ r i r' i')) ∧ Below w.heap.size w w' := by
  obtain ⟨x, y, rfl, rfl, h1, h2⟩ := nB_rat h
  obtain ⟨u, v, rfl, rfl, h3, h4⟩ := nB_rat h'
  unfold numQ
  rw [qv_rwq, qv_rwq, qv_rwq, qv_rwq]
  exact number_ok V U x y u v w hV hU h1 h2 h3 h4
end Go.Proofs.YtilhnjecnhpmlaaDoor
namespace Go.Proofs.YtilhnjecnhpmlaaDoor
open Go.RowKit

section
variable {nm : Rw → Rw → Rw → Rw → Int} {a b : Dat} {w : World} {B : Nat}
theorem ord_far (h : ¬ cmpZ a.k b.k = 0) : a.ord nm b = cmpZ a.k b.k := by rw [Dat.ord_eq, if_pos h]
theorem ord_at (h : a.k = b.k) : a.ord nm b = if a.k = 3 then nm a.re a.im b.re b.im
    else if textK a.k = true then cmpL (bytesN a.t) (bytesN b.t)
    else if a.k = 7 then cmpL (a.raw.map (·.toNat)) (b.raw.map (·.toNat))
    else if a.k = 8 ∨ a.k = 9 then (if cmpZ a.l.length b.l.length ≠ 0 then cmpZ a.l.length b.l.length else ordL nm a.l b.l)
    else cmpZ a.n b.n := by
  rw [Dat.ord_eq, if_neg (by simp [cmpZ_zero.2 h])]
theorem textK_no {k : Int} (h : k = 3 ∨ k = 7 ∨ k = 8 ∨ k = 9) : ¬ textK k = true := by unfold textK; simp; omega
theorem ord_pair (h : a.k = b.k) (h8 : a.k = 8) {x y x' y' : Dat} (e : a.l = [x, y]) (e' : b.l = [x', y']) : a.ord nm b = if x.ord nm x' ≠ 0 then x.ord nm x' else y.ord nm y' := by
  rw [ord_at h, if_neg (by omega), if_neg (textK_no (by omega)), if_neg (by omega), if_pos (.inl h8), e, e']
  rw [if_neg (by simp [cmpZ])]
  rw [ordL, ordL]
  by_cases h1 : x.ord nm x' = 0
  · simp only [h1, ne_eq, not_true_eq_false, if_false]
    by_cases h2 : y.ord nm y' = 0
    · simp only [h2, not_true_eq_false, if_false]; rw [ordL]
    · rw [if_pos h2]
  · rw [if_pos h1, if_pos h1]
theorem ord_num (h : a.k = b.k) (h3 : a.k = 3) : a.ord nm b = nm a.re a.im b.re b.im := by rw [ord_at h, if_pos h3]
theorem ord_text (h : a.k = b.k) (h3 : textK a.k = true) : a.ord nm b = cmpL (bytesN a.t) (bytesN b.t) := by
  rw [ord_at h, if_neg (fun e => textK_no (.inl e) h3), if_pos h3]
theorem ord_raw (h : a.k = b.k) (h7 : a.k = 7) : a.ord nm b = cmpL (bytesN ⟨a.raw.toArray⟩) (bytesN ⟨b.raw.toArray⟩) := by
  rw [ord_at h, if_neg (by omega), if_neg (textK_no (by omega)), if_pos h7]
  simp [bytesN]
theorem ord_vec (h : a.k = b.k) (h9 : a.k = 9) : a.ord nm b = if cmpZ a.l.length b.l.length ≠ 0 then cmpZ a.l.length b.l.length else ordL nm a.l b.l := by
  rw [ord_at h, if_neg (by omega), if_neg (textK_no (by omega)), if_neg (by omega), if_pos (.inr h9)]
theorem ord_else (h : a.k = b.k) (h3 : ¬ a.k = 3) (ht : textK a.k = false) (h7 : ¬ a.k = 7) (h8 : ¬ a.k = 8) (h9 : ¬ a.k = 9) : a.ord nm b = cmpZ a.n b.n := by
  rw [ord_at h, if_neg h3, if_neg (by simp [ht]), if_neg h7, if_neg (by omega)]
theorem RD.kids {x0 x1 x2 x3 x4 x5 x6 x7 x8 x9 : Value} {L : Option Addr} {n lc : Nat} (h : RD w B a (.agg #[x0, x1, x2, x3, x4, x5, x6, x7, x8, x9, .slice L n lc])) (h0 : 0 < a.l.length) : ∃ b off, L = some ⟨b, off, none⟩ ∧ b < B ∧ RDs w B a.l b off := by
  obtain ⟨_, _, _, _, _, _, _, _, _, _, _, _, hv, -, -, -, hd⟩ := h.view
  obtain ⟨b, off, hL, h1, h2⟩ := hd h0
  have := congrArg Array.toList (Value.agg.inj hv)
  simp only [List.cons.injEq, Value.slice.injEq] at this
  exact ⟨b, off, by rw [this.2.2.2.2.2.2.2.2.2.2.1.1]; exact hL, h1, h2⟩
theorem RD.vn {x0 x1 x2 x3 x4 x5 x6 x7 x8 x9 x10 : Value} (h : RD w B a (.agg #[x0, x1, x2, x3, x4, x5, x6, x7, x8, x9, x10])) : VN w B (.agg #[x2, x3, x4, x5, x6, x7]) a.re a.im := by
  obtain ⟨A1, c1, D1, d1, A2, c2, D2, d2, _, _, _, _, hv, ⟨h1, h2, h3, h4, -⟩, -⟩ := h.view
  have := congrArg Array.toList (Value.agg.inj hv)
  simp only [List.cons.injEq] at this
  exact ⟨A1, c1, D1, d1, A2, c2, D2, d2, by rw [this.2.2.1, this.2.2.2.1, this.2.2.2.2.1, this.2.2.2.2.2.1, this.2.2.2.2.2.2.1, this.2.2.2.2.2.2.2.1], h1, h2, h3, h4⟩
theorem RD.rawR {x0 x1 x2 x3 x4 x5 x6 x7 x8 x10 : Value} {R : Option Addr} {n rc : Nat} (h : RD w B a (.agg #[x0, x1, x2, x3, x4, x5, x6, x7, x8, .slice R n rc, x10])) : RB w B R rc a.raw := by
  obtain ⟨_, _, _, _, _, _, _, _, R2, rc2, _, _, hv, ⟨-, -, -, -, hr⟩, -⟩ := h.view
  have := congrArg Array.toList (Value.agg.inj hv)
  simp only [List.cons.injEq, Value.slice.injEq] at this
  rw [this.2.2.2.2.2.2.2.2.2.1.1, this.2.2.2.2.2.2.2.2.2.1.2.2]
  exact hr
theorem conv_any {A : Option Addr} {c : Nat} {l : List UInt8} (h : RB w B A c l) :
    (convert 29 9 (.slice A l.length c)).run Tryd.prog w = .ok (.string ⟨l.toArray⟩) w := by
  by_cases h0 : 0 < l.length
  · obtain ⟨b, off, e, -, -⟩ := h.at_ h0
    exact conv_bytes h ⟨b, off, e⟩
  · obtain rfl : l = [] := List.eq_nil_of_length_eq_zero (by omega)
    cases A with
    | none => exact run_convert_bytes_nil w 29 5 Tryd.underlying29 Tryd.underlying5 _ _ 9 Tryd.underlying9
    | some a => exact run_convert_bytes_back w 29 9 5 a c [] Tryd.underlying29 Tryd.underlying5 Tryd.underlying9 fun j hj => by simp at hj
theorem step_ldD {ops : Array Oper} {o : Oper} {a : Act} {w : World} {K : Act → World → Prop} {Q : Exit → Act → World → Prop} {E : Prop} (hgd : o.guard = none) (x : Operand) (ho : o.op = .load 31 x)
    (b off : Nat) (hx : a.eval x = .pointer (some ⟨b, off, none⟩)) (cs : List Value) (hc : w.rangeAt b off cs) (hl : cs.length = 11)
    (h : K (a.put o.dst (.agg cs.toArray)) w) : if Region.wanted o (yielded ops a.tmps) = true then Oper.wp Tryd.prog o a w K Q else E := by
  rw [if_pos (by simp [Region.wanted, hgd])]
  exact wp_load_mid 31 x ho b off hx cs _ hc Tryd.underlying31 rfl (infoD.trans (by rw [hl])) h
theorem step_stD {ops : Array Oper} {o : Oper} {a : Act} {w : World} {K : Act → World → Prop} {Q : Exit → Act → World → Prop} {E : Prop} (hgd : o.guard = none) (hdn : o.dst = none) (x y : Operand) (ho : o.op = .store 31 x y)
    (b : Nat) (hx : a.eval x = .pointer (some ⟨b, 0, none⟩)) (cs : List Value) (hy : a.eval y = .agg cs.toArray) (hl : cs.length = 11) (cs' : List Value) (hS : SB w b cs') (hl' : cs'.length = 11) (h1 : ∀ v ∈ cs, v.oneCell' = true)
    (h : K a (w.setCells b 0 cs)) : if Region.wanted o (yielded ops a.tmps) = true then Oper.wp Tryd.prog o a w K Q else E := by
  rw [if_pos (by simp [Region.wanted, hgd])]
  refine wp_store_mid 31 x y ho b 0 cs.toArray hx hy (fun j hj => by
      have hj' : j < cs'.length := by rw [hl', ← hl]; simpa using hj
      have h2 := hS.1 j cs'[j] (List.getElem?_eq_getElem hj')
      rw [Nat.zero_add]
      exact ⟨by rw [h2.1]; rfl, h2.2⟩) (by rw [infoD]; simp [hl]) (all_oneCell_toArray h1) (by rw [hdn]; exact h)
theorem infoD' (l : List Value) (h : l.length = 11) : (Tryd.prog.info? 31).map (·.size) = some l.length := by rw [infoD, h]
end

set_option maxRecDepth 100000 in
set_option maxHeartbeats 16000000 in
theorem eord_go (v : ByteArray → Bool) (m : Nat) : ∀ (a b : Dat), SizeOf.sizeOf a ≤ m → ∀ (va vb : Value) (w : World), RD w w.heap.size a va → RD w w.heap.size b vb → a.Good v → b.Good v →
    Calls Tryd.prog 39 #[va, vb] w fun e w' => e = .returned (.int .i64 (a.ord numQ b)) ∧ Below w.heap.size w w' := by
  induction m with
  | zero =>
    intro a b hd
    exfalso
    cases a
    simp only [Dat.mk.sizeOf_spec] at hd
    omega
  | succ m ih =>
    intro a b hd va vb w hR hS ga gb
    obtain ⟨T, hT⟩ : ∃ T, Hid (a.ord numQ b = T) := ⟨_, rfl⟩
    rw [hT.out]
    have hR0 := hR
    have hS0 := hS
    obtain ⟨A1, c1, D1, d1, A2, c2, D2, d2, R, rc, L, lc, rfl, -⟩ := hR.view
    obtain ⟨A1', c1', D1', d1', A2', c2', D2', d2', R', rc', L', lc', rfl, -⟩ := hS.view
    have SA := SB.new w [.int .i64 a.k, .int .i64 a.n, .bool a.re.s, .slice A1 a.re.a.length c1, .slice D1 a.re.b.length d1, .bool a.im.s, .slice A2 a.im.a.length c2, .slice D2 a.im.b.length d2, .string a.t, .slice R a.raw.length rc, .slice L a.l.length lc] 31
    have B1 := bal w (.cells #[.int .i64 a.k, .int .i64 a.n, .bool a.re.s, .slice A1 a.re.a.length c1, .slice D1 a.re.b.length d1, .bool a.im.s, .slice A2 a.im.a.length c2, .slice D2 a.im.b.length d2, .string a.t, .slice R a.raw.length rc, .slice L a.l.length lc] 31)
    have SB_ := SB.new (w.alloc (.cells #[.int .i64 a.k, .int .i64 a.n, .bool a.re.s, .slice A1 a.re.a.length c1, .slice D1 a.re.b.length d1, .bool a.im.s, .slice A2 a.im.a.length c2, .slice D2 a.im.b.length d2, .string a.t, .slice R a.raw.length rc, .slice L a.l.length lc] 31)) [.int .i64 b.k, .int .i64 b.n, .bool b.re.s, .slice A1' b.re.a.length c1', .slice D1' b.re.b.length d1', .bool b.im.s, .slice A2' b.im.a.length c2', .slice D2' b.im.b.length d2', .string b.t, .slice R' b.raw.length rc', .slice L' b.l.length lc'] 31
    have B2 := bal (w.alloc (.cells #[.int .i64 a.k, .int .i64 a.n, .bool a.re.s, .slice A1 a.re.a.length c1, .slice D1 a.re.b.length d1, .bool a.im.s, .slice A2 a.im.a.length c2, .slice D2 a.im.b.length d2, .string a.t, .slice R a.raw.length rc, .slice L a.l.length lc] 31)) (.cells #[.int .i64 b.k, .int .i64 b.n, .bool b.re.s, .slice A1' b.re.a.length c1', .slice D1' b.re.b.length d1', .bool b.im.s, .slice A2' b.im.a.length c2', .slice D2' b.im.b.length d2', .string b.t, .slice R' b.raw.length rc', .slice L' b.l.length lc'] 31)
    have SA := SA.nx B2
    have B1 := bt B1 B2
    have RA := RD.step B1 (Nat.le_refl _) hR0
    have RB_ := RD.step B1 (Nat.le_refl _) hS0
    have z1 : (w.alloc (.cells #[.int .i64 a.k, .int .i64 a.n, .bool a.re.s, .slice A1 a.re.a.length c1, .slice D1 a.re.b.length d1, .bool a.im.s, .slice A2 a.im.a.length c2, .slice D2 a.im.b.length d2, .string a.t, .slice R a.raw.length rc, .slice L a.l.length lc] 31)).heap.size = w.heap.size + 1 := by simp
    rw [z1] at SB_
    obtain ⟨W0, hW0⟩ : ∃ W0, W0 = (w.alloc (.cells #[.int .i64 a.k, .int .i64 a.n, .bool a.re.s, .slice A1 a.re.a.length c1, .slice D1 a.re.b.length d1, .bool a.im.s, .slice A2 a.im.a.length c2, .slice D2 a.im.b.length d2, .string a.t, .slice R a.raw.length rc, .slice L a.l.length lc] 31)).alloc (.cells #[.int .i64 b.k, .int .i64 b.n, .bool b.re.s, .slice A1' b.re.a.length c1', .slice D1' b.re.b.length d1', .bool b.im.s, .slice A2' b.im.a.length c2', .slice D2' b.im.b.length d2', .string b.t, .slice R' b.raw.length rc', .slice L' b.l.length lc'] 31) := ⟨_, rfl⟩
    go_enter Tryd.func39, Tryd.ntmps39
    go_upto_region 1 with fail
    rw [← hW0] at SA SB_ B1 RA RB_ ⊢
    clear hW0 hR hS hR0 hS0 B2 z1
    generalize hn : w.heap.size = n at *
    go_loopg [] (SizeOf.sizeOf a) (fun gk wx => ∃ (p q : Dat) (vp vq : Value) (cs ds : List Value), SizeOf.sizeOf p ≤ gk ∧ SizeOf.sizeOf p ≤ m + 1 ∧ vp = .agg cs.toArray ∧ vq = .agg ds.toArray ∧ RD wx n p vp ∧ RD wx n q vq ∧ SB wx n cs ∧ SB wx (n + 1) ds ∧ (p.Good v ∧ q.Good v) ∧ Hid (p.ord numQ q = T) ∧ Below n w wx)
    case atStart => exact ⟨a, b, _, _, _, _, Nat.le_refl _, hd, rfl, rfl, RA, RB_, SA, SB_, ⟨ga, gb⟩, hT, B1⟩
    case round =>
      obtain ⟨p, q, vp, vq, cs, ds, hk1, hk2, hcs, hds, RP, RQ_, SP, SQ, ⟨gp, gq⟩, hTp, BP⟩ := hrel
      clear RA RB_ SA SB_ hT B1 ga gb
      obtain ⟨A1p, c1p, D1p, d1p, A2p, c2p, D2p, d2p, Rp, rcp, Lp, lcp, hv, -⟩ := RP.view
      have hcs2 : cs = [.int .i64 p.k, .int .i64 p.n, .bool p.re.s, .slice A1p p.re.a.length c1p, .slice D1p p.re.b.length d1p, .bool p.im.s, .slice A2p p.im.a.length c2p, .slice D2p p.im.b.length d2p, .string p.t, .slice Rp p.raw.length rcp, .slice Lp p.l.length lcp] := by
        rw [hcs] at hv
        exact congrArg Array.toList (Value.agg.inj hv)
      subst hcs2
      subst hv
      clear hcs
      obtain ⟨A1q, c1q, D1q, d1q, A2q, c2q, D2q, d2q, Rq, rcq, Lq, lcq, hv, -⟩ := RQ_.view
      have hds2 : ds = [.int .i64 q.k, .int .i64 q.n, .bool q.re.s, .slice A1q q.re.a.length c1q, .slice D1q q.re.b.length d1q, .bool q.im.s, .slice A2q q.im.a.length c2q, .slice D2q q.im.b.length d2q, .string q.t, .slice Rq q.raw.length rcq, .slice Lq q.l.length lcq] := by
        rw [hds] at hv
        exact congrArg Array.toList (Value.agg.inj hv)
      subst hds2
      subst hv
      clear hds
      have hnw : n + 1 < wr.heap.size := SQ.2
      have i0 := SP.cell 0
      have i1 := SP.cell 1
      have i2 := SP.cell 2
      have i3 := SP.cell 3
      have i4 := SP.cell 4
      have i5 := SP.cell 5
      have i6 := SP.cell 6
      have i7 := SP.cell 7
      have i8 := SP.cell 8
      have i9 := SP.cell 9
      have i10 := SP.cell 10
      have j0 := SQ.cell 0
      have j1 := SQ.cell 1
      have j2 := SQ.cell 2
      have j3 := SQ.cell 3
      have j4 := SQ.cell 4
      have j5 := SQ.cell 5
      have j6 := SQ.cell 6
      have j7 := SQ.cell 7
      have j8 := SQ.cell 8
      have j9 := SQ.cell 9
      have j10 := SQ.cell 10
      go_wp2_with fail
      refine (cmpInt_any _ _ _).mono ?_; rintro e w5 ⟨rfl, rfl⟩
      by_cases hk : p.k = q.k
      rotate_left
      · have hz : ¬ cmpZ p.k q.k = 0 := fun e => hk (cmpZ_zero.1 e)
        have t1 : (cmpZ p.k q.k != 0) = true := bne_iff_ne.2 hz
        have hf : Hid (T = cmpZ p.k q.k) := Lib.hid (by rw [← hTp.out, ord_far hz])
        clear hTp hz
        generalize cmpZ p.k q.k = z1 at *
        go_wp2_with fail
        go_ret
        exact ⟨by rw [hf.out]; rfl, by rw [hn]; exact BP⟩
      have t1 : (cmpZ p.k q.k != 0) = false := by rw [cmpZ_zero.2 hk]; rfl
      generalize cmpZ p.k q.k = z1 at *
      by_cases h8 : p.k = 8
      · have t2 : (p.k != 8) = false := by rw [h8]; rfl
        obtain ⟨x, y, hxy⟩ := pair_two gp.shape h8
        obtain ⟨x', y', hxy'⟩ := pair_two gq.shape (hk ▸ h8)
        have hTo := Lib.hid (hTp.out ▸ ord_pair hk h8 hxy hxy' : T = if x.ord numQ x' ≠ 0 then x.ord numQ x' else y.ord numQ y')
        have gx := gp.kids x (by rw [hxy]; simp)
        have gy := gp.kids y (by rw [hxy]; simp)
        have gx' := gq.kids x' (by rw [hxy']; simp)
        have gy' := gq.kids y' (by rw [hxy']; simp)
        have sx := Dat.lt_of_mem (d := p) (x := x) (by rw [hxy]; simp)
        have sy := Dat.lt_of_mem (d := p) (x := y) (by rw [hxy]; simp)
        obtain ⟨bA, oA, hA, hbA, dA⟩ := RP.kids (by rw [hxy]; simp)
        obtain ⟨bB, oB, hB, hbB, dB⟩ := RQ_.kids (by rw [hxy']; simp)
        subst hA hB
        rw [hxy] at dA i10
        rw [hxy'] at dB j10
        replace h8 := Lib.hid h8
        replace hk := Lib.hid hk
        obtain ⟨vx, Rx, cx⟩ := dA.get (i := 0) (x := x) rfl
        obtain ⟨vy, Ry, cy⟩ := dA.get (i := 1) (x := y) rfl
        obtain ⟨vx', Rx', cx'⟩ := dB.get (i := 0) (x := x') rfl
        obtain ⟨vy', Ry', cy'⟩ := dB.get (i := 1) (x := y') rfl
        obtain ⟨xs, rfl, xl, -⟩ := Rx.agg
        obtain ⟨ys, rfl, yl, yo⟩ := Ry.agg
        obtain ⟨xs', rfl, xl', -⟩ := Rx'.agg
        obtain ⟨ys', rfl, yl', yo'⟩ := Ry'.agg
        have cx : wr.rangeAt bA oA xs := fun j u hj => by have := cx _ rfl j u (by simpa using hj); simpa using this
        have cy : wr.rangeAt bA (oA + 11) ys := fun j u hj => by have := cy _ rfl j u (by simpa using hj); simpa using this
        have cx' : wr.rangeAt bB oB xs' := fun j u hj => by have := cx' _ rfl j u (by simpa using hj); simpa using this
        have cy' : wr.rangeAt bB (oB + 11) ys' := fun j u hj => by have := cy' _ rfl j u (by simpa using hj); simpa using this
        have hpl : p.l.length = 2 := by rw [hxy]; rfl
        have hql : q.l.length = 2 := by rw [hxy']; rfl
        clear dA dB RP RQ_ gp gq hTp hxy hxy'
        simp only [List.length_cons, List.length_nil] at i10 j10
        go_upto_region 5 with fail
        have D := (Below.refl wr.heap.size wr).drew
        have hx1 := ih x x' (by omega) _ _ wr.drew (RD.step (D.mono (by omega)) (by have := D.size; omega) Rx) (RD.step (D.mono (by omega)) (by have := D.size; omega) Rx') gx gx'
        have BP : Below n w wr.drew := bdN BP 1
        have SP := SP.nx D
        have SQ := SQ.nx D
        have cx : wr.drew.rangeAt bA oA xs := cx
        have cy : wr.drew.rangeAt bA (oA + 11) ys := cy
        have cx' : wr.drew.rangeAt bB oB xs' := cx'
        have cy' : wr.drew.rangeAt bB (oB + 11) ys' := cy'
        have Ry := RD.step (D.mono (by omega)) (Nat.le_refl _) Ry
        have Ry' := RD.step (D.mono (by omega)) (Nat.le_refl _) Ry'
        have hnw : n + 1 < wr.drew.heap.size := SQ.2
        replace i10 := SP.cell 10
        replace j10 := SQ.cell 10
        rw [show p.l.length = 2 from hpl] at i10
        rw [show q.l.length = 2 from hql] at j10
        refine AnyV.regionQ 9 10 (fun w' => w'.cell? ⟨n, 10, none⟩ = some (.slice (some ⟨bA, oA, none⟩) 2 lcp) ∧ w'.cell? ⟨n + 1, 10, none⟩ = some (.slice (some ⟨bB, oB, none⟩) 2 lcq) ∧ w'.rangeAt bA oA xs ∧ w'.rangeAt bB oB xs') rfl (by kernel_rfl) (by kernel_rfl) (by repeat (first | refine quiet_then ?_ | refine quiet_block ?_ | exact quiet_body)) ⟨i10, j10, cx, cx'⟩ (fun Q hQK hq hns hHeld => ?_)
        generalize wr.drew = w6 at *
        refine AnyV.next (i := 0) (v := ?_) hq hns hHeld rfl rfl (by kernel_rfl) (Or.inl ⟨by rfl, ?_⟩) ?_
        rotate_left
        · intro w' hSw; (try dsimp only at hSw); go_simp <;> with_reducible rfl
        try simp only [List.setIfInBounds_toArray, List.set_cons_zero, List.set_cons_succ]
        refine AnyV.next (i := 1) (v := ?_) hq hns hHeld rfl rfl (by kernel_rfl) (Or.inl ⟨by rfl, ?_⟩) ?_
        rotate_left
        · intro w' hSw; (try dsimp only at hSw); go_simp <;> with_reducible rfl
        try simp only [List.setIfInBounds_toArray, List.set_cons_zero, List.set_cons_succ]
        refine AnyV.next (i := 2) (v := ?_) hq hns hHeld rfl rfl (by kernel_rfl) (Or.inl ⟨by rfl, ?_⟩) ?_
        rotate_left
        · intro w' hSw; (try dsimp only at hSw); go_simp <;> with_reducible rfl
        try simp only [List.setIfInBounds_toArray, List.set_cons_zero, List.set_cons_succ]
        refine AnyV.next (i := 3) (v := .agg xs.toArray) hq hns hHeld rfl rfl (by kernel_rfl) (yieldsIf_load_mid (by rfl) 31 (.tmp 23) rfl bA oA rfl xs _ (fun w' h => h.2.2.1) Tryd.underlying31 rfl (infoD.trans (by rw [xl]))) ?_
        try simp only [List.setIfInBounds_toArray, List.set_cons_zero, List.set_cons_succ]
        refine AnyV.next (i := 4) (v := ?_) hq hns hHeld rfl rfl (by kernel_rfl) (Or.inl ⟨by rfl, ?_⟩) ?_
        rotate_left
        · intro w' hSw; (try dsimp only at hSw); go_simp <;> with_reducible rfl
        try simp only [List.setIfInBounds_toArray, List.set_cons_zero, List.set_cons_succ]
        refine AnyV.next (i := 5) (v := ?_) hq hns hHeld rfl rfl (by kernel_rfl) (Or.inl ⟨by rfl, ?_⟩) ?_
        rotate_left
        · intro w' hSw; (try dsimp only at hSw); go_simp <;> with_reducible rfl
        try simp only [List.setIfInBounds_toArray, List.set_cons_zero, List.set_cons_succ]
        refine AnyV.next (i := 6) (v := ?_) hq hns hHeld rfl rfl (by kernel_rfl) (Or.inl ⟨by rfl, ?_⟩) ?_
        rotate_left
        · intro w' hSw; (try dsimp only at hSw); go_simp <;> with_reducible rfl
        try simp only [List.setIfInBounds_toArray, List.set_cons_zero, List.set_cons_succ]
        refine AnyV.next (i := 7) (v := .agg xs'.toArray) hq hns hHeld rfl rfl (by kernel_rfl) (yieldsIf_load_mid (by rfl) 31 (.tmp 27) rfl bB oB rfl xs' _ (fun w' h => h.2.2.2) Tryd.underlying31 rfl (infoD.trans (by rw [xl']))) ?_
        try simp only [List.setIfInBounds_toArray, List.set_cons_zero, List.set_cons_succ]
        obtain ⟨zx, hzx⟩ : ∃ zx, x.ord numQ x' = zx := ⟨_, rfl⟩
        rw [hzx] at hx1 hTo
        clear hzx
        refine AnyV.one 8 (by kernel_rfl) rfl (fun K hK => ?_)
        go_simp
        refine hx1.mono ?_; rintro e w7 ⟨rfl, B7⟩
        go_wp2_with fail
        refine hK.out _ _ (.inr ⟨by rw [← hpl]; exact (SP.nx B7).cell 10, by rw [← hql]; exact (SQ.nx B7).cell 10, fun j u hj => (B7.cell (p := ⟨bA, oA + j, none⟩) (by show bA < _; omega)).trans (cx j u hj), fun j u hj => (B7.cell (p := ⟨bB, oB + j, none⟩) (by show bB < _; omega)).trans (cx' j u hj)⟩) (fun _ => ?_)
        clear hK K
        try simp only [List.setIfInBounds_toArray, List.set_cons_zero, List.set_cons_succ]
        refine AnyV.one 9 (by kernel_rfl) rfl (fun K hK => ?_)
        go_simp
        refine hK.out _ _ (.inl (by decide)) (fun _ => ?_)
        clear hK K
        try simp only [List.setIfInBounds_toArray, List.set_cons_zero, List.set_cons_succ]
        refine AnyV.done (by kernel_rfl) (hQK.out _ _ ?_)
        clear hQK hq hns hHeld
        have BP := BP.trans (B7.mono (by omega))
        have SP := SP.nx B7
        have SQ := SQ.nx B7
        have Ry := RD.step (B7.mono (by omega)) (Nat.le_refl _) Ry
        have Ry' := RD.step (B7.mono (by omega)) (Nat.le_refl _) Ry'
        have cy : w7.rangeAt bA (oA + 11) ys := fun j u hj => (B7.cell (p := ⟨bA, oA + 11 + j, none⟩) (by show bA < _; omega)).trans (cy j u hj)
        have cy' : w7.rangeAt bB (oB + 11) ys' := fun j u hj => (B7.cell (p := ⟨bB, oB + 11 + j, none⟩) (by show bB < _; omega)).trans (cy' j u hj)
        have hnw : n + 1 < w7.heap.size := SQ.2
        clear i0 j0 i1 j1 i2 j2 i3 j3 i4 j4 i5 j5 i6 j6 i7 j7 i8 j8 i9 j9 i10 j10 cx cx' Rx Rx'
        by_cases hz : zx = 0
        rotate_left
        · have t3 : (zx != 0) = true := bne_iff_ne.2 hz
          have hf : Hid (T = zx) := Lib.hid (by rw [hTo.out, if_pos hz])
          clear hTo hz
          go_wp2_with fail
          go_ret
          exact ⟨by rw [hf.out]; rfl, by rw [hn]; exact BP⟩
        have t3 : (zx != 0) = false := by rw [hz]; rfl
        have hTo : Hid (y.ord numQ y' = T) := Lib.hid (by rw [hTo.out, if_neg (by simp [hz])])
        clear hz
        go_upto_region 8 with fail
        have D := (Below.refl w7.heap.size w7).drew
        have BP : Below n w w7.drew := bdN BP 1
        have SP := SP.nx D
        have SQ := SQ.nx D
        have cy : w7.drew.rangeAt bA (oA + 11) ys := cy
        have cy' : w7.drew.rangeAt bB (oB + 11) ys' := cy'
        have Ry := RD.step (D.mono (by omega)) (Nat.le_refl _) Ry
        have Ry' := RD.step (D.mono (by omega)) (Nat.le_refl _) Ry'
        have i10 := SP.cell 10
        have j10 := SQ.cell 10
        rw [hpl] at i10
        rw [hql] at j10
        refine AnyV.regionQ 9 10 (fun w' => w'.cell? ⟨n + 1, 10, none⟩ = some (.slice (some ⟨bB, oB, none⟩) 2 lcq) ∧ w'.rangeAt bB (oB + 11) ys') rfl (by kernel_rfl) (by kernel_rfl) (by repeat (first | refine quiet_then ?_ | refine quiet_block ?_ | exact quiet_body)) ⟨j10, cy'⟩ (fun Q hQK hq hns hHeld => ?_)
        generalize w7.drew = w8 at *
        clear D hnw
        refine AnyV.next (i := 4) (v := ?_) hq hns hHeld rfl rfl (by kernel_rfl) (Or.inl ⟨by rfl, ?_⟩) ?_
        rotate_left
        · intro w' hSw; (try dsimp only at hSw); go_simp <;> with_reducible rfl
        try simp only [List.setIfInBounds_toArray, List.set_cons_zero, List.set_cons_succ]
        refine AnyV.next (i := 5) (v := ?_) hq hns hHeld rfl rfl (by kernel_rfl) (Or.inl ⟨by rfl, ?_⟩) ?_
        rotate_left
        · intro w' hSw; (try dsimp only at hSw); go_simp <;> with_reducible rfl
        try simp only [List.setIfInBounds_toArray, List.set_cons_zero, List.set_cons_succ]
        refine AnyV.next (i := 6) (v := ?_) hq hns hHeld rfl rfl (by kernel_rfl) (Or.inl ⟨by rfl, ?_⟩) ?_
        rotate_left
        · intro w' hSw; (try dsimp only at hSw); go_simp <;> with_reducible rfl
        try simp only [List.setIfInBounds_toArray, List.set_cons_zero, List.set_cons_succ]
        refine AnyV.next (i := 7) (v := .agg ys'.toArray) hq hns hHeld rfl rfl (by kernel_rfl) (yieldsIf_load_mid (by rfl) 31 (.tmp 39) rfl bB (oB + 11) rfl ys' _ (fun w' h => h.2) Tryd.underlying31 rfl (infoD.trans (by rw [yl']))) ?_
        try simp only [List.setIfInBounds_toArray, List.set_cons_zero, List.set_cons_succ]
        refine AnyV.one 0 (by kernel_rfl) rfl (fun K hK => ?_)
        go_simp
        refine hK.out _ _ (.inr ⟨j10, cy'⟩) (fun _ => ?_)
        clear hK K
        try simp only [List.setIfInBounds_toArray, List.set_cons_zero, List.set_cons_succ]
        refine AnyV.one 1 (by kernel_rfl) rfl (fun K hK => ?_)
        go_simp
        refine hK.out _ _ (.inr ⟨j10, cy'⟩) (fun _ => ?_)
        clear hK K
        try simp only [List.setIfInBounds_toArray, List.set_cons_zero, List.set_cons_succ]
        refine AnyV.one 2 (by kernel_rfl) rfl (fun K hK => ?_)
        go_simp
        refine hK.out _ _ (.inr ⟨j10, cy'⟩) (fun _ => ?_)
        clear hK K
        try simp only [List.setIfInBounds_toArray, List.set_cons_zero, List.set_cons_succ]
        refine AnyV.one 3 (by kernel_rfl) rfl (fun K hK => ?_)
        refine step_ldD rfl (.tmp 35) rfl bA (oA + 11) rfl ys cy yl ?_
        refine hK.out _ _ (.inr ⟨j10, cy'⟩) (fun _ => ?_)
        clear hK K
        try simp only [List.setIfInBounds_toArray, List.set_cons_zero, List.set_cons_succ]
        have SP8 := SP.cells ys yl
        have SQ8 := SQ.cells_far (g := n) (by omega) ys
        have BP8 := below_sc BP (b := n) (Nat.le_refl _) ys
        have Ry8 := RD.step (below_sc (Below.refl n w8) (b := n) (Nat.le_refl _) ys) (Nat.le_refl _) Ry
        have Ry8' := RD.step (below_sc (Below.refl n w8) (b := n) (Nat.le_refl _) ys) (Nat.le_refl _) Ry'
        refine AnyV.one 8 (by kernel_rfl) rfl (fun K hK => ?_)
        refine step_stD rfl rfl (.tmp 2) (.tmp 36) rfl n rfl ys rfl yl _ SP rfl yo ?_
        refine hK.out _ _ (.inr ⟨by rw [← hql]; exact SQ8.cell 10, fun j u hj => (World.cell?_setCells_out n ys 0 w8 ⟨bB, oB + 11 + j, none⟩ (fun e => absurd e (by show bB ≠ n; omega))).trans (cy' j u hj)⟩) (fun _ => ?_)
        clear hK K
        try simp only [List.setIfInBounds_toArray, List.set_cons_zero, List.set_cons_succ]
        generalize w8.setCells n 0 ys = w9 at *
        have SP9 := SP8.cells_far (g := n + 1) (by omega) ys'
        have SQ9 := SQ8.cells ys' yl'
        have BP9 := below_sc BP8 (b := n + 1) (by omega) ys'
        have Ry9 := RD.step (below_sc (Below.refl n w9) (b := n + 1) (by omega) ys') (Nat.le_refl _) Ry8
        have Ry9' := RD.step (below_sc (Below.refl n w9) (b := n + 1) (by omega) ys') (Nat.le_refl _) Ry8'
        refine AnyV.one 9 (by kernel_rfl) rfl (fun K hK => ?_)
        refine step_stD rfl rfl (.tmp 3) (.tmp 40) rfl (n + 1) rfl ys' rfl yl' _ SQ8 rfl yo' ?_
        refine hK.out _ _ (.inl (by decide)) (fun _ => ?_)
        clear hK K
        try simp only [List.setIfInBounds_toArray, List.set_cons_zero, List.set_cons_succ]
        refine AnyV.done (by kernel_rfl) (hQK.out _ _ ?_)
        clear hQK hq hns hHeld
        generalize w9.setCells (n + 1) 0 ys' = w10 at *
        go_wp2_with fail
        go_roundg (SizeOf.sizeOf y)
        case measure => omega
        case rel => exact ⟨y, y', _, _, ys, ys', Nat.le_refl _, by omega, rfl, rfl, Ry9, Ry9', SP9, SQ9, ⟨gy, gy'⟩, hTo, BP9⟩
      have t2 : (p.k != 8) = true := bne_iff_ne.2 h8
      by_cases hc : p.k = 3
      · have n1 := gp.numOk hc
        have n2 := gq.numOk (hk.symm.trans hc)
        have V1 := (RD.step (Below.refl _ _) (Nat.le_trans (Nat.le_succ n) (Nat.le_of_lt hnw)) RP).vn
        have V2 := (RD.step (Below.refl _ _) (Nat.le_trans (Nat.le_succ n) (Nat.le_of_lt hnw)) RQ_).vn
        have hcall := number_any V1 V2 n1 n2
        have hf : Hid (numQ p.re p.im q.re q.im = T) := Lib.hid (by rw [← hTp.out, ord_num hk hc])
        rw [hf.out] at hcall
        have s3 : (p.k == 3) = true := by rw [hc]; rfl
        have s5 : (p.k == 5) = false := by rw [hc]; rfl
        have s6 : (p.k == 6) = false := by rw [hc]; rfl
        have s11 : (p.k == 11) = false := by rw [hc]; rfl
        have s7 : (p.k == 7) = false := by rw [hc]; rfl
        have s9 : (p.k == 9) = false := by rw [hc]; rfl
        replace hk := Lib.hid hk
        clear hc h8 hTp hf
        go_wp2_with fail
        refine hcall.mono ?_; rintro e w6 ⟨rfl, B6⟩
        go_wp2_with fail
        go_ret
        exact ⟨rfl, by rw [hn]; exact BP.trans (B6.mono (by omega))⟩
      have h3 := hc
      clear hc
      by_cases hc : p.k = 5
      · have hf : Hid (cmpL (bytesN p.t) (bytesN q.t) = T) := Lib.hid (by rw [← hTp.out, ord_text hk (by unfold textK; simp [hc])])
        have hcall := fun w' => cmpStr_any p.t q.t w'
        rw [hf.out] at hcall
        have s3 : (p.k == 3) = false := by rw [hc]; rfl
        have s5 : (p.k == 5) = true := by rw [hc]; rfl
        have s6 : (p.k == 6) = false := by rw [hc]; rfl
        have s11 : (p.k == 11) = false := by rw [hc]; rfl
        have s7 : (p.k == 7) = false := by rw [hc]; rfl
        have s9 : (p.k == 9) = false := by rw [hc]; rfl
        replace hk := Lib.hid hk
        clear hc h8 hTp hf
        go_wp2_with fail
        refine (hcall _).mono ?_; rintro e w6 ⟨rfl, rfl⟩
        go_wp2_with fail
        go_ret
        exact ⟨rfl, by rw [hn]; exact BP⟩
      have h5 := hc
      clear hc
      by_cases hc : p.k = 6
      · have hf : Hid (cmpL (bytesN p.t) (bytesN q.t) = T) := Lib.hid (by rw [← hTp.out, ord_text hk (by unfold textK; simp [hc])])
        have hcall := fun w' => cmpStr_any p.t q.t w'
        rw [hf.out] at hcall
        have s3 : (p.k == 3) = false := by rw [hc]; rfl
        have s5 : (p.k == 5) = false := by rw [hc]; rfl
        have s6 : (p.k == 6) = true := by rw [hc]; rfl
        have s11 : (p.k == 11) = false := by rw [hc]; rfl
        have s7 : (p.k == 7) = false := by rw [hc]; rfl
        have s9 : (p.k == 9) = false := by rw [hc]; rfl
        replace hk := Lib.hid hk
        clear hc h8 hTp hf
        go_wp2_with fail
        refine (hcall _).mono ?_; rintro e w6 ⟨rfl, rfl⟩
        go_wp2_with fail
        go_ret
        exact ⟨rfl, by rw [hn]; exact BP⟩
      have h6 := hc
      clear hc
      by_cases hc : p.k = 11
      · have hf : Hid (cmpL (bytesN p.t) (bytesN q.t) = T) := Lib.hid (by rw [← hTp.out, ord_text hk (by unfold textK; simp [hc])])
        have hcall := fun w' => cmpStr_any p.t q.t w'
        rw [hf.out] at hcall
        have s3 : (p.k == 3) = false := by rw [hc]; rfl
        have s5 : (p.k == 5) = false := by rw [hc]; rfl
        have s6 : (p.k == 6) = false := by rw [hc]; rfl
        have s11 : (p.k == 11) = true := by rw [hc]; rfl
        have s7 : (p.k == 7) = false := by rw [hc]; rfl
        have s9 : (p.k == 9) = false := by rw [hc]; rfl
        replace hk := Lib.hid hk
        clear hc h8 hTp hf
        go_wp2_with fail
        refine (hcall _).mono ?_; rintro e w6 ⟨rfl, rfl⟩
        go_wp2_with fail
        go_ret
        exact ⟨rfl, by rw [hn]; exact BP⟩
      have h11 := hc
      clear hc
      by_cases hc : p.k = 7
      · have hf : Hid (cmpL (bytesN ⟨p.raw.toArray⟩) (bytesN ⟨q.raw.toArray⟩) = T) := Lib.hid (by rw [← hTp.out, ord_raw hk hc])
        have hcall := fun w' => cmpStr_any ⟨p.raw.toArray⟩ ⟨q.raw.toArray⟩ w'
        rw [hf.out] at hcall
        have cv1 := conv_any RP.rawR
        have cv2 := conv_any RQ_.rawR
        have s3 : (p.k == 3) = false := by rw [hc]; rfl
        have s5 : (p.k == 5) = false := by rw [hc]; rfl
        have s6 : (p.k == 6) = false := by rw [hc]; rfl
        have s11 : (p.k == 11) = false := by rw [hc]; rfl
        have s7 : (p.k == 7) = true := by rw [hc]; rfl
        have s9 : (p.k == 9) = false := by rw [hc]; rfl
        replace hk := Lib.hid hk
        clear hc h8 hTp hf
        go_wp2_with fail
        refine (hcall _).mono ?_; rintro e w6 ⟨rfl, rfl⟩
        go_wp2_with fail
        go_ret
        exact ⟨rfl, by rw [hn]; exact BP⟩
      have h7 := hc
      clear hc
      by_cases hc : p.k = 9
      rotate_left
      · have hf : Hid (cmpZ p.n q.n = T) := Lib.hid (by rw [← hTp.out, ord_else hk h3 (by unfold textK; simp [h5, h6, h11]) h7 h8 hc])
        have hcall := fun w' => cmpInt_any p.n q.n w'
        rw [hf.out] at hcall
        have s3 : (p.k == 3) = false := beq_false_of_ne h3
        have s5 : (p.k == 5) = false := beq_false_of_ne h5
        have s6 : (p.k == 6) = false := beq_false_of_ne h6
        have s11 : (p.k == 11) = false := beq_false_of_ne h11
        have s7 : (p.k == 7) = false := beq_false_of_ne h7
        have s9 : (p.k == 9) = false := beq_false_of_ne hc
        replace hk := Lib.hid hk
        clear hc h8 hTp hf h3 h5 h6 h11 h7
        go_wp2_with fail
        refine (hcall _).mono ?_; rintro e w6 ⟨rfl, rfl⟩
        go_wp2_with fail
        go_ret
        exact ⟨rfl, by rw [hn]; exact BP⟩
      have s3 : (p.k == 3) = false := by rw [hc]; rfl
      have s5 : (p.k == 5) = false := by rw [hc]; rfl
      have s6 : (p.k == 6) = false := by rw [hc]; rfl
      have s11 : (p.k == 11) = false := by rw [hc]; rfl
      have s7 : (p.k == 7) = false := by rw [hc]; rfl
      have s9 : (p.k == 9) = true := by rw [hc]; rfl
      have hTv := Lib.hid (hTp.out ▸ ord_vec hk hc : T = if cmpZ p.l.length q.l.length ≠ 0 then cmpZ p.l.length q.l.length else ordL numQ p.l q.l)
      replace hk := Lib.hid hk
      replace hc := Lib.hid hc
      clear h8 hTp h3 h5 h6 h11 h7
      have hlP : p.l.length ≤ 35184372088832 := by obtain ⟨_, _, _, _, _, _, _, _, _, _, _, _, _, _, _, hh, _⟩ := RP.view; exact hh.2
      go_wp2_with fail
      refine (cmpInt_any _ _ _).mono ?_; rintro e w6 ⟨rfl, rfl⟩
      by_cases hll : p.l.length = q.l.length
      rotate_left
      · have hz : ¬ cmpZ p.l.length q.l.length = 0 := fun e => hll (by have := cmpZ_zero.1 e; omega)
        have t5 : (cmpZ (p.l.length : Int) (q.l.length : Int) != 0) = true := bne_iff_ne.2 hz
        have hf : Hid (T = cmpZ p.l.length q.l.length) := Lib.hid (by rw [hTv.out, if_pos hz])
        clear hTv hz
        generalize cmpZ (p.l.length : Int) (q.l.length : Int) = z2 at *
        go_wp2_with fail
        go_ret
        exact ⟨by rw [hf.out]; rfl, by rw [hn]; exact BP⟩
      have hz : cmpZ (p.l.length : Int) (q.l.length : Int) = 0 := by rw [hll]; exact cmpZ_zero.2 rfl
      have t5 : (cmpZ (p.l.length : Int) (q.l.length : Int) != 0) = false := by rw [hz]; rfl
      replace hTv : Hid (ordL numQ (p.l.drop 0) (q.l.drop 0) = T) := Lib.hid (by rw [hTv.out, if_neg (by simp [hz])]; rfl)
      clear hz
      generalize cmpZ (p.l.length : Int) (q.l.length : Int) = z2 at *
      replace hll := Lib.hid hll
      go_upto_region 23 with fail
      clear i0 j0 i1 j1 i2 j2 i3 j3 i4 j4 i5 j5 i6 j6 i7 j7 i8 j8 i9 j9 i10 j10
      go_loopg [83] p.l.length (fun gk s83 wx => ∃ i : Nat, s83 = .int .i64 (i : Int) ∧ i ≤ p.l.length ∧ p.l.length - i = gk ∧ Hid (ordL numQ (p.l.drop i) (q.l.drop i) = T) ∧ SB wx n [.int .i64 p.k, .int .i64 p.n, .bool p.re.s, .slice A1p p.re.a.length c1p, .slice D1p p.re.b.length d1p, .bool p.im.s, .slice A2p p.im.a.length c2p, .slice D2p p.im.b.length d2p, .string p.t, .slice Rp p.raw.length rcp, .slice Lp p.l.length lcp] ∧ SB wx (n + 1) [.int .i64 q.k, .int .i64 q.n, .bool q.re.s, .slice A1q q.re.a.length c1q, .slice D1q q.re.b.length d1q, .bool q.im.s, .slice A2q q.im.a.length c2q, .slice D2q q.im.b.length d2q, .string q.t, .slice Rq q.raw.length rcq, .slice Lq q.l.length lcq] ∧ RD wx n p (.agg #[.int .i64 p.k, .int .i64 p.n, .bool p.re.s, .slice A1p p.re.a.length c1p, .slice D1p p.re.b.length d1p, .bool p.im.s, .slice A2p p.im.a.length c2p, .slice D2p p.im.b.length d2p, .string p.t, .slice Rp p.raw.length rcp, .slice Lp p.l.length lcp]) ∧ RD wx n q (.agg #[.int .i64 q.k, .int .i64 q.n, .bool q.re.s, .slice A1q q.re.a.length c1q, .slice D1q q.re.b.length d1q, .bool q.im.s, .slice A2q q.im.a.length c2q, .slice D2q q.im.b.length d2q, .string q.t, .slice Rq q.raw.length rcq, .slice Lq q.l.length lcq]) ∧ Below n w wx)
      case atStart => exact ⟨0, rfl, Nat.zero_le _, rfl, hTv, SP, SQ, RP, RQ_, BP⟩
      case round =>
        obtain ⟨i, rfl, hil, hgk, hTi, SP2, SQ2, RP2, RQ2, BP2⟩ := hrel
        clear SP SQ RP RQ_ BP hTv hnw
        have hnw : n + 1 < wr.heap.size := SQ2.2
        by_cases hi : i < p.l.length
        · have hi' : i < q.l.length := by rw [← hll.out]; exact hi
          obtain ⟨bA, oA, hA, hbA, dA⟩ := RP2.kids (by omega)
          obtain ⟨bB, oB, hB, hbB, dB⟩ := RQ2.kids (by omega)
          have hx1 := List.getElem?_eq_getElem hi
          have hy1 := List.getElem?_eq_getElem hi'
          have gx := gp.kids _ (List.getElem_mem hi)
          have gy := gq.kids _ (List.getElem_mem hi')
          have hsz : SizeOf.sizeOf p.l[i] ≤ m := by have := Dat.lt_of_mem (d := p) (List.getElem_mem hi); omega
          have hTi := hTi.out
          rw [List.drop_eq_getElem_cons hi, List.drop_eq_getElem_cons hi', ordL] at hTi
          generalize p.l[i] = x at *
          generalize q.l[i] = y at *
          obtain ⟨vx, Rx, cx⟩ := dA.get hx1
          obtain ⟨vy, Ry, cy⟩ := dB.get hy1
          obtain ⟨xs, rfl, xl, -⟩ := Rx.agg
          obtain ⟨ys, rfl, yl, -⟩ := Ry.agg
          have cx : wr.drew.rangeAt bA (oA + i * 11) xs := fun j u hj => cx _ rfl j u (by simpa using hj)
          have cy : wr.drew.rangeAt bB (oB + i * 11) ys := fun j u hj => cy _ rfl j u (by simpa using hj)
          clear dA dB hx1 hy1
          subst hA hB
          have hwi : IntKind.i64.wrap ((i : Int) + 1) = (i : Int) + 1 := IntWalk.i64_in _ (by omega)
          have hli : (i : Int) < (p.l.length : Int) := by omega
          have hli' : (i : Int) < (q.l.length : Int) := by omega
          go_upto_region 25 with fail
          have D := (Below.refl wr.heap.size wr).drew
          have hcall := ih x y hsz _ _ wr.drew (RD.step (D.mono (by omega)) (by have := D.size; omega) Rx) (RD.step (D.mono (by omega)) (by have := D.size; omega) Ry) gx gy
          have BP2 : Below n w wr.drew := bdN BP2 1
          have SP2 := SP2.nx D
          have SQ2 := SQ2.nx D
          have RP2 := RD.step (D.mono (by omega)) (Nat.le_refl _) RP2
          have RQ2 := RD.step (D.mono (by omega)) (Nat.le_refl _) RQ2
          have hnw : n + 1 < wr.drew.heap.size := SQ2.2
          have i10 := SP2.cell 10
          have j10 := SQ2.cell 10
          obtain ⟨zx, hzx⟩ : ∃ zx, x.ord numQ y = zx := ⟨_, rfl⟩
          rw [hzx] at hcall hTi
          replace hTi := Lib.hid hTi
          clear hzx D
          refine AnyV.regionQ 11 12 (fun w' => w'.cell? ⟨n, 10, none⟩ = some (.slice (some ⟨bA, oA, none⟩) p.l.length lcp) ∧ w'.cell? ⟨n + 1, 10, none⟩ = some (.slice (some ⟨bB, oB, none⟩) q.l.length lcq) ∧ w'.rangeAt bA (oA + i * 11) xs ∧ w'.rangeAt bB (oB + i * 11) ys) rfl (by kernel_rfl) (by kernel_rfl) (by repeat (first | refine quiet_then ?_ | refine quiet_block ?_ | exact quiet_body)) ⟨i10, j10, cx, cy⟩ (fun Q hQK hq hns hHeld => ?_)
          generalize wr.drew = w6 at *
          refine AnyV.next (i := 0) (v := ?_) hq hns hHeld rfl rfl (by kernel_rfl) (Or.inl ⟨by rfl, ?_⟩) ?_
          rotate_left
          · intro w' hSw; (try dsimp only at hSw); go_simp <;> with_reducible rfl
          try simp only [List.setIfInBounds_toArray, List.set_cons_zero, List.set_cons_succ]
          refine AnyV.next (i := 1) (v := ?_) hq hns hHeld rfl rfl (by kernel_rfl) (Or.inl ⟨by rfl, ?_⟩) ?_
          rotate_left
          · intro w' hSw; (try dsimp only at hSw); go_simp <;> with_reducible rfl
          try simp only [List.setIfInBounds_toArray, List.set_cons_zero, List.set_cons_succ]
          refine AnyV.next (i := 2) (v := ?_) hq hns hHeld rfl rfl (by kernel_rfl) (Or.inl ⟨by rfl, ?_⟩) ?_
          rotate_left
          · intro w' hSw; (try dsimp only at hSw); go_simp <;> with_reducible rfl
          try simp only [List.setIfInBounds_toArray, List.set_cons_zero, List.set_cons_succ]
          refine AnyV.next (i := 3) (v := ?_) hq hns hHeld rfl rfl (by kernel_rfl) (Or.inl ⟨by rfl, ?_⟩) ?_
          rotate_left
          · intro w' hSw; (try dsimp only at hSw); go_simp <;> with_reducible rfl
          try simp only [List.setIfInBounds_toArray, List.set_cons_zero, List.set_cons_succ]
          refine AnyV.next (i := 4) (v := .agg xs.toArray) hq hns hHeld rfl rfl (by kernel_rfl) (yieldsIf_load_mid (by rfl) 31 (.tmp 89) rfl bA (oA + i * 11) rfl xs _ (fun w' h => h.2.2.1) Tryd.underlying31 rfl (infoD.trans (by rw [xl]))) ?_
          try simp only [List.setIfInBounds_toArray, List.set_cons_zero, List.set_cons_succ]
          refine AnyV.next (i := 5) (v := ?_) hq hns hHeld rfl rfl (by kernel_rfl) (Or.inl ⟨by rfl, ?_⟩) ?_
          rotate_left
          · intro w' hSw; (try dsimp only at hSw); go_simp <;> with_reducible rfl
          try simp only [List.setIfInBounds_toArray, List.set_cons_zero, List.set_cons_succ]
          refine AnyV.next (i := 6) (v := ?_) hq hns hHeld rfl rfl (by kernel_rfl) (Or.inl ⟨by rfl, ?_⟩) ?_
          rotate_left
          · intro w' hSw; (try dsimp only at hSw); go_simp <;> with_reducible rfl
          try simp only [List.setIfInBounds_toArray, List.set_cons_zero, List.set_cons_succ]
          refine AnyV.next (i := 7) (v := ?_) hq hns hHeld rfl rfl (by kernel_rfl) (Or.inl ⟨by rfl, ?_⟩) ?_
          rotate_left
          · intro w' hSw; (try dsimp only at hSw); go_simp <;> with_reducible rfl
          try simp only [List.setIfInBounds_toArray, List.set_cons_zero, List.set_cons_succ]
          refine AnyV.next (i := 8) (v := ?_) hq hns hHeld rfl rfl (by kernel_rfl) (Or.inl ⟨by rfl, ?_⟩) ?_
          rotate_left
          · intro w' hSw; (try dsimp only at hSw); go_simp <;> with_reducible rfl
          try simp only [List.setIfInBounds_toArray, List.set_cons_zero, List.set_cons_succ]
          refine AnyV.next (i := 9) (v := .agg ys.toArray) hq hns hHeld rfl rfl (by kernel_rfl) (yieldsIf_load_mid (by rfl) 31 (.tmp 94) rfl bB (oB + i * 11) rfl ys _ (fun w' h => h.2.2.2) Tryd.underlying31 rfl (infoD.trans (by rw [yl]))) ?_
          try simp only [List.setIfInBounds_toArray, List.set_cons_zero, List.set_cons_succ]
          refine AnyV.one 10 (by kernel_rfl) rfl (fun K hK => ?_)
          go_simp
          refine hcall.mono ?_; rintro e w7 ⟨rfl, B7⟩
          go_wp2_with fail
          refine hK.out _ _ (.inr ⟨(SP2.nx B7).cell 10, (SQ2.nx B7).cell 10, fun j u hj => (B7.cell (p := ⟨bA, oA + i * 11 + j, none⟩) (by show bA < _; omega)).trans (cx j u hj), fun j u hj => (B7.cell (p := ⟨bB, oB + i * 11 + j, none⟩) (by show bB < _; omega)).trans (cy j u hj)⟩) (fun _ => ?_)
          clear hK K
          try simp only [List.setIfInBounds_toArray, List.set_cons_zero, List.set_cons_succ]
          refine AnyV.one 11 (by kernel_rfl) rfl (fun K hK => ?_)
          go_simp
          refine hK.out _ _ (.inl (by decide)) (fun _ => ?_)
          clear hK K
          try simp only [List.setIfInBounds_toArray, List.set_cons_zero, List.set_cons_succ]
          refine AnyV.done (by kernel_rfl) (hQK.out _ _ ?_)
          clear hQK hq hns hHeld
          have BP := BP2.trans (B7.mono (by omega))
          have SP := SP2.nx B7
          have SQ := SQ2.nx B7
          have RP := RD.step (B7.mono (by omega)) (Nat.le_refl _) RP2
          have RQ_ := RD.step (B7.mono (by omega)) (Nat.le_refl _) RQ2
          clear i10 j10 cx cy Rx Ry SP2 SQ2 RP2 RQ2 BP2 B7 hcall
          by_cases hz : zx = 0
          rotate_left
          · have t6 : (zx != 0) = true := bne_iff_ne.2 hz
            have hf : Hid (T = zx) := Lib.hid (by rw [← hTi.out, if_pos hz])
            clear hTi hz
            go_wp2_with fail
            go_ret
            exact ⟨by rw [hf.out]; rfl, by rw [hn]; exact BP⟩
          have t6 : (zx != 0) = false := by rw [hz]; rfl
          have hTn : Hid (ordL numQ (p.l.drop (i + 1)) (q.l.drop (i + 1)) = T) := Lib.hid (by rw [← hTi.out, if_neg (by simp [hz])])
          clear hz hTi
          go_wp2_with fail
          go_roundg (p.l.length - (i + 1))
          case measure => omega
          case rel => exact ⟨i + 1, by go_num, by omega, rfl, hTn, SP, SQ, RP, RQ_, BP⟩
        · obtain rfl : i = p.l.length := by omega
          have hf : Hid (T = 0) := Lib.hid (by rw [← hTi.out, List.drop_length, ordL])
          clear hTi RP2 RQ2 hgk hil
          generalize p.l.length = lm at *
          go_wp2_with fail
          go_ret
          exact ⟨by rw [hf.out]; rfl, by rw [hn]; exact BP2⟩
theorem eord_any (v : ByteArray → Bool) {a b : Dat} {va vb : Value} {w : World} (h1 : RD w w.heap.size a va) (h2 : RD w w.heap.size b vb) (ga : a.Good v) (gb : b.Good v) :
    Calls Tryd.prog 39 #[va, vb] w fun e w' => e = .returned (.int .i64 (a.ord numQ b)) ∧ Below w.heap.size w w' := eord_go v _ a b (Nat.le_refl _) va vb w h1 h2 ga gb
end Go.Proofs.YtilhnjecnhpmlaaDoor
namespace Go.Proofs.YtilhnjecnhpmlaaDoor
open Go.RowKit

/-- Equal, Cmp of any data -/
def eqD (valid : ByteArray → Bool) (a b : Dat) : Bool := a.sound valid && (b.sound valid && decide (a.ord numQ b = 0))
def cmpD (valid : ByteArray → Bool) (a b : Dat) : Int := if a.sound valid = true ∧ b.sound valid = true then a.ord numQ b else 0

set_option maxRecDepth 100000 in
set_option maxHeartbeats 8000000 in
theorem eequal_any (valid : ByteArray → Bool) {a b : Dat} {va vb : Value} {w : World} (hR : RD w w.heap.size a va) (hS : RD w w.heap.size b vb) (hV : VS valid w.heap.size w) :
    Calls Tryd.prog 23 #[va, vb] w fun e w' => e = .returned (.bool (a.sound valid && (b.sound valid && decide (a.ord numQ b = 0)))) ∧ Below w.heap.size w w' := by
  obtain ⟨z, hz⟩ : ∃ z, Hid ((a.sound valid && (b.sound valid && decide (a.ord numQ b = 0))) = z) := ⟨_, rfl⟩
  rw [hz.out]
  have hR0 := hR
  have hS0 := hS
  obtain ⟨A1, c1, D1, d1, A2, c2, D2, d2, R, rc, L, lc, rfl, -⟩ := hR.view
  obtain ⟨A1', c1', D1', d1', A2', c2', D2', d2', R', rc', L', lc', rfl, -⟩ := hS.view
  have SA := SB.new w [.int .i64 a.k, .int .i64 a.n, .bool a.re.s, .slice A1 a.re.a.length c1, .slice D1 a.re.b.length d1, .bool a.im.s, .slice A2 a.im.a.length c2, .slice D2 a.im.b.length d2, .string a.t, .slice R a.raw.length rc, .slice L a.l.length lc] 31
  have B1 := bal w (.cells #[.int .i64 a.k, .int .i64 a.n, .bool a.re.s, .slice A1 a.re.a.length c1, .slice D1 a.re.b.length d1, .bool a.im.s, .slice A2 a.im.a.length c2, .slice D2 a.im.b.length d2, .string a.t, .slice R a.raw.length rc, .slice L a.l.length lc] 31)
  have SB_ := SB.new (w.alloc (.cells #[.int .i64 a.k, .int .i64 a.n, .bool a.re.s, .slice A1 a.re.a.length c1, .slice D1 a.re.b.length d1, .bool a.im.s, .slice A2 a.im.a.length c2, .slice D2 a.im.b.length d2, .string a.t, .slice R a.raw.length rc, .slice L a.l.length lc] 31)) [.int .i64 b.k, .int .i64 b.n, .bool b.re.s, .slice A1' b.re.a.length c1', .slice D1' b.re.b.length d1', .bool b.im.s, .slice A2' b.im.a.length c2', .slice D2' b.im.b.length d2', .string b.t, .slice R' b.raw.length rc', .slice L' b.l.length lc'] 31
  have B2 := bal (w.alloc (.cells #[.int .i64 a.k, .int .i64 a.n, .bool a.re.s, .slice A1 a.re.a.length c1, .slice D1 a.re.b.length d1, .bool a.im.s, .slice A2 a.im.a.length c2, .slice D2 a.im.b.length d2, .string a.t, .slice R a.raw.length rc, .slice L a.l.length lc] 31)) (.cells #[.int .i64 b.k, .int .i64 b.n, .bool b.re.s, .slice A1' b.re.a.length c1', .slice D1' b.re.b.length d1', .bool b.im.s, .slice A2' b.im.a.length c2', .slice D2' b.im.b.length d2', .string b.t, .slice R' b.raw.length rc', .slice L' b.l.length lc'] 31)
  have SA := SA.nx B2
  have B1 := bt B1 B2
  have RA := hR0.st B1
  have RB_ := hS0.st B1
  have V := (hV.st B1).more B1.size
  obtain ⟨W0, hW0⟩ : ∃ W0, W0 = (w.alloc (.cells #[.int .i64 a.k, .int .i64 a.n, .bool a.re.s, .slice A1 a.re.a.length c1, .slice D1 a.re.b.length d1, .bool a.im.s, .slice A2 a.im.a.length c2, .slice D2 a.im.b.length d2, .string a.t, .slice R a.raw.length rc, .slice L a.l.length lc] 31)).alloc (.cells #[.int .i64 b.k, .int .i64 b.n, .bool b.re.s, .slice A1' b.re.a.length c1', .slice D1' b.re.b.length d1', .bool b.im.s, .slice A2' b.im.a.length c2', .slice D2' b.im.b.length d2', .string b.t, .slice R' b.raw.length rc', .slice L' b.l.length lc'] 31) := ⟨_, rfl⟩
  have z1 : (w.alloc (.cells #[.int .i64 a.k, .int .i64 a.n, .bool a.re.s, .slice A1 a.re.a.length c1, .slice D1 a.re.b.length d1, .bool a.im.s, .slice A2 a.im.a.length c2, .slice D2 a.im.b.length d2, .string a.t, .slice R a.raw.length rc, .slice L a.l.length lc] 31)).heap.size = w.heap.size + 1 := by simp
  rw [z1] at SB_
  go_enter Tryd.func23, Tryd.ntmps23
  go_upto_region 1 with fail
  rw [← hW0] at SA SB_ B1 RA RB_ V ⊢
  clear hW0 hR hS hR0 hS0 B2 z1 hV
  have i0 := SA.cell 0; have i1 := SA.cell 1; have i2 := SA.cell 2; have i3 := SA.cell 3; have i4 := SA.cell 4; have i5 := SA.cell 5; have i6 := SA.cell 6; have i7 := SA.cell 7; have i8 := SA.cell 8; have i9 := SA.cell 9; have i10 := SA.cell 10
  go_wp2_with fail
  refine (dsound_any valid a _ _ RA V).mono ?_; rintro e w3 ⟨rfl, B3⟩
  clear i0 i1 i2 i3 i4 i5 i6 i7 i8 i9 i10
  have BN := bt B1 B3
  replace SA := SA.nx B3
  replace SB_ := SB_.nx B3
  replace RA := RA.st B3
  replace RB_ := RB_.st B3
  replace V := (V.st B3).more B3.size
  clear B1 B3
  have B1 := BN
  clear BN
  cases hs : a.sound valid with
  | false =>
    have hf : Hid (z = false) := Lib.hid (by rw [← hz.out]; simp [hs])
    clear hz hs
    go_wp2_with fail
    go_ret
    exact ⟨by rw [hf.out]; rfl, B1⟩
  | true =>
  replace hs := Lib.hid hs
  have j0 := SB_.cell 0; have j1 := SB_.cell 1; have j2 := SB_.cell 2; have j3 := SB_.cell 3; have j4 := SB_.cell 4; have j5 := SB_.cell 5; have j6 := SB_.cell 6; have j7 := SB_.cell 7; have j8 := SB_.cell 8; have j9 := SB_.cell 9; have j10 := SB_.cell 10
  go_wp2_with fail
  refine (dsound_any valid b _ _ RB_ V).mono ?_; rintro e w4 ⟨rfl, B4⟩
  clear j0 j1 j2 j3 j4 j5 j6 j7 j8 j9 j10
  have BN := bt B1 B4
  replace SA := SA.nx B4
  replace SB_ := SB_.nx B4
  replace RA := RA.st B4
  replace RB_ := RB_.st B4
  replace V := (V.st B4).more B4.size
  clear B1 B4
  have B1 := BN
  clear BN
  cases hs2 : b.sound valid with
  | false =>
    have hf : Hid (z = false) := Lib.hid (by rw [← hz.out]; simp [hs.out, hs2])
    clear hz hs hs2
    go_wp2_with fail
    go_ret
    exact ⟨by rw [hf.out]; rfl, B1⟩
  | true =>
  have hcall := eord_any valid RA RB_ (Dat.sound_good hs.out) (Dat.sound_good hs2)
  replace hs2 := Lib.hid hs2
  have i0 := SA.cell 0; have i1 := SA.cell 1; have i2 := SA.cell 2; have i3 := SA.cell 3; have i4 := SA.cell 4; have i5 := SA.cell 5; have i6 := SA.cell 6; have i7 := SA.cell 7; have i8 := SA.cell 8; have i9 := SA.cell 9; have i10 := SA.cell 10
  have j0 := SB_.cell 0; have j1 := SB_.cell 1; have j2 := SB_.cell 2; have j3 := SB_.cell 3; have j4 := SB_.cell 4; have j5 := SB_.cell 5; have j6 := SB_.cell 6; have j7 := SB_.cell 7; have j8 := SB_.cell 8; have j9 := SB_.cell 9; have j10 := SB_.cell 10
  obtain ⟨zx, hzx⟩ : ∃ zx, a.ord numQ b = zx := ⟨_, rfl⟩
  rw [hzx] at hcall
  go_wp2_with fail
  refine hcall.mono ?_; rintro e w5 ⟨rfl, B5⟩
  by_cases h0 : zx = 0
  · have hf : Hid (z = true) := Lib.hid (by rw [← hz.out, hzx]; simp [hs.out, hs2.out, h0])
    have t1 : (zx == 0) = true := by rw [h0]; rfl
    clear hz h0 hzx
    go_wp2_with fail
    go_ret
    exact ⟨by rw [hf.out]; rfl, bt B1 B5⟩
  · have hf : Hid (z = false) := Lib.hid (by rw [← hz.out, hzx]; simp [hs.out, hs2.out, h0])
    have t1 : (zx == 0) = false := beq_false_of_ne h0
    clear hz h0 hzx
    go_wp2_with fail
    go_ret
    exact ⟨by rw [hf.out]; rfl, bt B1 B5⟩
set_option maxRecDepth 100000 in
set_option maxHeartbeats 8000000 in
theorem ecmpd_any (valid : ByteArray → Bool) {a b : Dat} {va vb : Value} {w : World} (hR : RD w w.heap.size a va) (hS : RD w w.heap.size b vb) (hV : VS valid w.heap.size w) :
    Calls Tryd.prog 22 #[va, vb] w fun e w' => e = .returned (.int .i64 (if a.sound valid = true ∧ b.sound valid = true then a.ord numQ b else 0)) ∧ Below w.heap.size w w' := by
  obtain ⟨z, hz⟩ : ∃ z, Hid ((if a.sound valid = true ∧ b.sound valid = true then a.ord numQ b else 0) = z) := ⟨_, rfl⟩
  rw [hz.out]
  have hR0 := hR
  have hS0 := hS
  obtain ⟨A1, c1, D1, d1, A2, c2, D2, d2, R, rc, L, lc, rfl, -⟩ := hR.view
  obtain ⟨A1', c1', D1', d1', A2', c2', D2', d2', R', rc', L', lc', rfl, -⟩ := hS.view
  have SA := SB.new w [.int .i64 a.k, .int .i64 a.n, .bool a.re.s, .slice A1 a.re.a.length c1, .slice D1 a.re.b.length d1, .bool a.im.s, .slice A2 a.im.a.length c2, .slice D2 a.im.b.length d2, .string a.t, .slice R a.raw.length rc, .slice L a.l.length lc] 31
  have B1 := bal w (.cells #[.int .i64 a.k, .int .i64 a.n, .bool a.re.s, .slice A1 a.re.a.length c1, .slice D1 a.re.b.length d1, .bool a.im.s, .slice A2 a.im.a.length c2, .slice D2 a.im.b.length d2, .string a.t, .slice R a.raw.length rc, .slice L a.l.length lc] 31)
  have SB_ := SB.new (w.alloc (.cells #[.int .i64 a.k, .int .i64 a.n, .bool a.re.s, .slice A1 a.re.a.length c1, .slice D1 a.re.b.length d1, .bool a.im.s, .slice A2 a.im.a.length c2, .slice D2 a.im.b.length d2, .string a.t, .slice R a.raw.length rc, .slice L a.l.length lc] 31)) [.int .i64 b.k, .int .i64 b.n, .bool b.re.s, .slice A1' b.re.a.length c1', .slice D1' b.re.b.length d1', .bool b.im.s, .slice A2' b.im.a.length c2', .slice D2' b.im.b.length d2', .string b.t, .slice R' b.raw.length rc', .slice L' b.l.length lc'] 31
  have B2 := bal (w.alloc (.cells #[.int .i64 a.k, .int .i64 a.n, .bool a.re.s, .slice A1 a.re.a.length c1, .slice D1 a.re.b.length d1, .bool a.im.s, .slice A2 a.im.a.length c2, .slice D2 a.im.b.length d2, .string a.t, .slice R a.raw.length rc, .slice L a.l.length lc] 31)) (.cells #[.int .i64 b.k, .int .i64 b.n, .bool b.re.s, .slice A1' b.re.a.length c1', .slice D1' b.re.b.length d1', .bool b.im.s, .slice A2' b.im.a.length c2', .slice D2' b.im.b.length d2', .string b.t, .slice R' b.raw.length rc', .slice L' b.l.length lc'] 31)
  have SA := SA.nx B2
  have B1 := bt B1 B2
  have RA := hR0.st B1
  have RB_ := hS0.st B1
  have V := (hV.st B1).more B1.size
  obtain ⟨W0, hW0⟩ : ∃ W0, W0 = (w.alloc (.cells #[.int .i64 a.k, .int .i64 a.n, .bool a.re.s, .slice A1 a.re.a.length c1, .slice D1 a.re.b.length d1, .bool a.im.s, .slice A2 a.im.a.length c2, .slice D2 a.im.b.length d2, .string a.t, .slice R a.raw.length rc, .slice L a.l.length lc] 31)).alloc (.cells #[.int .i64 b.k, .int .i64 b.n, .bool b.re.s, .slice A1' b.re.a.length c1', .slice D1' b.re.b.length d1', .bool b.im.s, .slice A2' b.im.a.length c2', .slice D2' b.im.b.length d2', .string b.t, .slice R' b.raw.length rc', .slice L' b.l.length lc'] 31) := ⟨_, rfl⟩
  have z1 : (w.alloc (.cells #[.int .i64 a.k, .int .i64 a.n, .bool a.re.s, .slice A1 a.re.a.length c1, .slice D1 a.re.b.length d1, .bool a.im.s, .slice A2 a.im.a.length c2, .slice D2 a.im.b.length d2, .string a.t, .slice R a.raw.length rc, .slice L a.l.length lc] 31)).heap.size = w.heap.size + 1 := by simp
  rw [z1] at SB_
  go_enter Tryd.func22, Tryd.ntmps22
  go_upto_region 1 with fail
  rw [← hW0] at SA SB_ B1 RA RB_ V ⊢
  clear hW0 hR hS hR0 hS0 B2 z1 hV
  have i0 := SA.cell 0; have i1 := SA.cell 1; have i2 := SA.cell 2; have i3 := SA.cell 3; have i4 := SA.cell 4; have i5 := SA.cell 5; have i6 := SA.cell 6; have i7 := SA.cell 7; have i8 := SA.cell 8; have i9 := SA.cell 9; have i10 := SA.cell 10
  go_wp2_with fail
  refine (dsound_any valid a _ _ RA V).mono ?_; rintro e w3 ⟨rfl, B3⟩
  clear i0 i1 i2 i3 i4 i5 i6 i7 i8 i9 i10
  have BN := bt B1 B3
  replace SA := SA.nx B3
  replace SB_ := SB_.nx B3
  replace RA := RA.st B3
  replace RB_ := RB_.st B3
  replace V := (V.st B3).more B3.size
  clear B1 B3
  have B1 := BN
  clear BN
  cases hs : a.sound valid with
  | false =>
    have hf : Hid (z = 0) := Lib.hid (by rw [← hz.out]; simp [hs])
    clear hz hs
    go_wp2_with fail
    go_ret
    exact ⟨by rw [hf.out]; rfl, B1⟩
  | true =>
  replace hs := Lib.hid hs
  have j0 := SB_.cell 0; have j1 := SB_.cell 1; have j2 := SB_.cell 2; have j3 := SB_.cell 3; have j4 := SB_.cell 4; have j5 := SB_.cell 5; have j6 := SB_.cell 6; have j7 := SB_.cell 7; have j8 := SB_.cell 8; have j9 := SB_.cell 9; have j10 := SB_.cell 10
  go_wp2_with fail
  refine (dsound_any valid b _ _ RB_ V).mono ?_; rintro e w4 ⟨rfl, B4⟩
  clear j0 j1 j2 j3 j4 j5 j6 j7 j8 j9 j10
  have BN := bt B1 B4
  replace SA := SA.nx B4
  replace SB_ := SB_.nx B4
  replace RA := RA.st B4
  replace RB_ := RB_.st B4
  replace V := (V.st B4).more B4.size
  clear B1 B4
  have B1 := BN
  clear BN
  cases hs2 : b.sound valid with
  | false =>
    have hf : Hid (z = 0) := Lib.hid (by rw [← hz.out]; simp [hs.out, hs2])
    clear hz hs hs2
    go_wp2_with fail
    go_ret
    exact ⟨by rw [hf.out]; rfl, B1⟩
  | true =>
  have hcall := eord_any valid RA RB_ (Dat.sound_good hs.out) (Dat.sound_good hs2)
  replace hs2 := Lib.hid hs2
  have i0 := SA.cell 0; have i1 := SA.cell 1; have i2 := SA.cell 2; have i3 := SA.cell 3; have i4 := SA.cell 4; have i5 := SA.cell 5; have i6 := SA.cell 6; have i7 := SA.cell 7; have i8 := SA.cell 8; have i9 := SA.cell 9; have i10 := SA.cell 10
  have j0 := SB_.cell 0; have j1 := SB_.cell 1; have j2 := SB_.cell 2; have j3 := SB_.cell 3; have j4 := SB_.cell 4; have j5 := SB_.cell 5; have j6 := SB_.cell 6; have j7 := SB_.cell 7; have j8 := SB_.cell 8; have j9 := SB_.cell 9; have j10 := SB_.cell 10
  have hf : Hid (z = a.ord numQ b) := Lib.hid (by rw [← hz.out]; simp [hs.out, hs2.out])
  generalize a.ord numQ b = zx at *
  clear hz
  go_wp2_with fail
  refine hcall.mono ?_; rintro e w5 ⟨rfl, B5⟩
  go_wp2_with fail
  go_ret
  exact ⟨by rw [hf.out]; rfl, bt B1 B5⟩
end Go.Proofs.YtilhnjecnhpmlaaDoor
