/- Walks: Text of exact, of any number. -/
import Derived.Test.YtbgggepdlkbpoaaGreatDoorGJ
import Derived.Test.YtbgggepdlkbpoaaGreatDoorRdF
namespace Go.Proofs.YtbgggepdlkbpoaaGreatDoor
open Go.RowKit

theorem ratTx_eq (b : Nat) (q : Rat) : ratTx b q = ratT (txt b) q := by
  unfold ratTx ratT fracT
  have h : (digs (qd q) = [1]) = (qd q = 1) := propext ⟨fun h => by rw [← val_digs (qd q), h, val_one], fun h => by rw [h, digs_one1]⟩
  simp only [h]
  cases qn q <;> simp
/-- Text of anything -/
def textZ (r i : Rw) (b : Int) : List UInt8 × Int := textQ r i b.toNat (decide (b = 2 ∨ b = 8 ∨ b = 10 ∨ b = 16))
theorem textZ_bad {r i : Rw} (b : Int) (h : nB r i = false) : textZ r i b = ([], 2) := by unfold textZ textQ; rw [if_pos h]
theorem textZ_arg {r i : Rw} {b : Int} (h : nB r i = true) (hb : ¬ (b = 2 ∨ b = 8 ∨ b = 10 ∨ b = 16)) : textZ r i b = ([], 1) := by unfold textZ textQ; rw [if_neg (by simp [h]), decide_eq_false hb, if_pos rfl]
theorem textZ_ok {r i : Rw} {k : Nat} (h : nB r i = true) (hb : rdOk k) : textZ r i (k : Int) = (numT (txt k) (qv r) (qv i), 0) := by
  unfold textZ textQ
  rw [if_neg (by simp [h]), decide_eq_true (show (k : Int) = 2 ∨ (k : Int) = 8 ∨ (k : Int) = 10 ∨ (k : Int) = 16 by unfold rdOk at hb; omega), if_neg (by simp), Int.toNat_natCast]
theorem ba_toList (l : List UInt8) : (⟨l.toArray⟩ : ByteArray).data.toList = l := by simp
/-- a text's tail against another text -/
theorem tail_eq (s : ByteArray) (m : List UInt8) : ((s.extract 1 s.size).toList == m) = decide (s.data.toList.tail = m) := by
  rw [str_eq, ext_drop, List.drop_one]
theorem take_eq (s : ByteArray) (l : List UInt8) (h : s.data.toList = l) : s.extract 0 1 = ⟨(l.take 1).toArray⟩ := by
  have := ext_take s 1
  rw [h] at this
  cases hs : s.extract 0 1 with
  | mk d => rw [hs] at this; congr 1; rw [← this]
theorem ratT_len {r : Nat} (hr : rdOk r) {q : Rat} (hq : qw q ≤ 512) : (ratT (txt r) q).length ≤ 40000 := by
  have hl := hr.le
  have h1 := txt_len (b := r) hl.1 (Nat.le_trans (qw_t q) hq)
  have h2 := txt_len (b := r) hl.1 (Nat.le_trans (qw_d q) hq)
  have h3 : (if qn q = true then [(45 : UInt8)] else []).length ≤ 1 := by split <;> simp
  have h4 : (if qd q = 1 then ([] : List UInt8) else 47 :: txt r (qd q)).length ≤ 1 + (32 * 512 + 1) := by
    split
    · simp
    · rw [List.length_cons]; omega
  unfold ratT fracT
  simp only [List.length_append]
  omega
theorem imP_len {r : Nat} (hr : rdOk r) {q : Rat} (hq : qw q ≤ 512) : (imS (txt r) q).length ≤ 40001 ∧ (imP (txt r) q).length ≤ 40001 := by
  have h := ratT_len hr hq
  have h1 : (imS (txt r) q).length ≤ 40001 := by
    unfold imS
    split
    · omega
    · rw [List.length_cons]; omega
  refine ⟨h1, ?_⟩
  unfold imP
  split
  · rw [List.length_take]; omega
  · exact h1


set_option maxRecDepth 100000 in
set_option maxHeartbeats 4000000 in
theorem etext_bad (V : Value) (r i : Rw) (b : Int) (w : World) (hV : VN w w.heap.size V r i) (hb : nB r i = false) :
    Calls Tryz.prog 12 #[V, .int .i64 b] w (RetT w ([], 2)) := by
  obtain ⟨A1, c1, D1, d1, A2, c2, D2, d2, rfl, p1, p2, p3, p4⟩ := hV
  have B1 := bal w (.cells #[.bool r.s, .slice A1 r.a.length c1, .slice D1 r.b.length d1, .bool i.s, .slice A2 i.a.length c2, .slice D2 i.b.length d2] 26)
  have s1 := SB.new w [.bool r.s, .slice A1 r.a.length c1, .slice D1 r.b.length d1, .bool i.s, .slice A2 i.a.length c2, .slice D2 i.b.length d2] 26
  have B2 := bal (w.alloc (.cells #[.bool r.s, .slice A1 r.a.length c1, .slice D1 r.b.length d1, .bool i.s, .slice A2 i.a.length c2, .slice D2 i.b.length d2] 26)) (.cells #[.bool r.s, .slice A1 r.a.length c1, .slice D1 r.b.length d1, .bool i.s, .slice A2 i.a.length c2, .slice D2 i.b.length d2] 26)
  have sg := SB.new (w.alloc (.cells #[.bool r.s, .slice A1 r.a.length c1, .slice D1 r.b.length d1, .bool i.s, .slice A2 i.a.length c2, .slice D2 i.b.length d2] 26)) [.bool r.s, .slice A1 r.a.length c1, .slice D1 r.b.length d1, .bool i.s, .slice A2 i.a.length c2, .slice D2 i.b.length d2] 26
  have z1 : (w.alloc (.cells #[.bool r.s, .slice A1 r.a.length c1, .slice D1 r.b.length d1, .bool i.s, .slice A2 i.a.length c2, .slice D2 i.b.length d2] 26)).heap.size = w.heap.size + 1 := by simp
  rw [z1] at sg
  have C1 := bt B1 B2
  have k1 := s1.nx B2
  have hck := check1x_any false (w.heap.size + 1) _ _ _ _ _ _ _ _ _ _ _ _ _ _ _ sg (st p1 C1) (st p2 C1) (st p3 C1) (st p4 C1)
  have hc2 : chkN1 false ⟨r.s, r.a, r.b⟩ ⟨i.s, i.a, i.b⟩ = 2 := by unfold chkN1; rw [if_neg (by rw [hb]; simp)]
  rw [hc2] at hck
  clear hc2 sg hb
  go_enter Tryz.func12, Tryz.ntmps12
  go_wp2_with fail
  refine hck.mono ?_; rintro e w3 ⟨rfl, B3⟩
  go_wp2_with fail
  go_ret2
  exact ⟨rfl, bt C1 B3⟩
theorem chk_ok {p q : Rat} (hp : qw p ≤ 512) (hq : qw q ≤ 512) : chkN1 false ⟨qn p, digs (qt p), digs (qd p)⟩ ⟨qn q, digs (qt q), digs (qd q)⟩ = 0 := by
  unfold chkN1
  have h : nB ⟨qn p, digs (qt p), digs (qd p)⟩ ⟨qn q, digs (qt q), digs (qd q)⟩ = true := by
    unfold nB
    dsimp only
    rw [rsB_of p hp, rsB_of q hq]
    rfl
  rw [if_pos h, if_neg (by simp)]
set_option maxRecDepth 100000 in
set_option maxHeartbeats 4000000 in
theorem etext_arg (V : Value) (p q : Rat) (b : Int) (w : World) (hV : VN w w.heap.size V (rwq p) (rwq q)) (hp : qw p ≤ 512) (hq : qw q ≤ 512) (h : ¬ (b = 2 ∨ b = 8 ∨ b = 10 ∨ b = 16)) :
    Calls Tryz.prog 12 #[V, .int .i64 b] w (RetT w ([], 1)) := by
  obtain ⟨A1, c1, D1, d1, A2, c2, D2, d2, rfl, p1, p2, p3, p4⟩ := hV
  simp only [rwq] at p1 p2 p3 p4 ⊢
  have B1 := bal w (.cells #[.bool (qn p), .slice A1 (digs (qt p)).length c1, .slice D1 (digs (qd p)).length d1, .bool (qn q), .slice A2 (digs (qt q)).length c2, .slice D2 (digs (qd q)).length d2] 26)
  have s1 := SB.new w [.bool (qn p), .slice A1 (digs (qt p)).length c1, .slice D1 (digs (qd p)).length d1, .bool (qn q), .slice A2 (digs (qt q)).length c2, .slice D2 (digs (qd q)).length d2] 26
  have B2 := bal (w.alloc (.cells #[.bool (qn p), .slice A1 (digs (qt p)).length c1, .slice D1 (digs (qd p)).length d1, .bool (qn q), .slice A2 (digs (qt q)).length c2, .slice D2 (digs (qd q)).length d2] 26)) (.cells #[.bool (qn p), .slice A1 (digs (qt p)).length c1, .slice D1 (digs (qd p)).length d1, .bool (qn q), .slice A2 (digs (qt q)).length c2, .slice D2 (digs (qd q)).length d2] 26)
  have sg := SB.new (w.alloc (.cells #[.bool (qn p), .slice A1 (digs (qt p)).length c1, .slice D1 (digs (qd p)).length d1, .bool (qn q), .slice A2 (digs (qt q)).length c2, .slice D2 (digs (qd q)).length d2] 26)) [.bool (qn p), .slice A1 (digs (qt p)).length c1, .slice D1 (digs (qd p)).length d1, .bool (qn q), .slice A2 (digs (qt q)).length c2, .slice D2 (digs (qd q)).length d2] 26
  have z1 : (w.alloc (.cells #[.bool (qn p), .slice A1 (digs (qt p)).length c1, .slice D1 (digs (qd p)).length d1, .bool (qn q), .slice A2 (digs (qt q)).length c2, .slice D2 (digs (qd q)).length d2] 26)).heap.size = w.heap.size + 1 := by simp
  rw [z1] at sg
  have C1 := bt B1 B2
  have k1 := s1.nx B2
  have hck := check1x_any false (w.heap.size + 1) _ _ _ _ _ _ _ _ _ _ _ _ _ _ _ sg (st p1 C1) (st p2 C1) (st p3 C1) (st p4 C1)
  rw [chk_ok hp hq] at hck
  simp only [not_or] at h
  obtain ⟨h2, h8, h10, h16⟩ := h
  have t2 : (b != 2) = true := bne_iff_ne.2 h2
  have t8 : (b != 8) = true := bne_iff_ne.2 h8
  have t10 : (b != 10) = true := bne_iff_ne.2 h10
  have t16 : (b != 16) = true := bne_iff_ne.2 h16
  clear h2 h8 h10 h16 sg hp hq
  go_enter Tryz.func12, Tryz.ntmps12
  go_wp2_with fail
  refine hck.mono ?_; rintro e w3 ⟨rfl, B3⟩
  go_wp2_with fail
  go_ret2
  exact ⟨rfl, bt C1 B3⟩


set_option maxRecDepth 100000 in
set_option maxHeartbeats 8000000 in
theorem etext_real (V : Value) (p q : Rat) (r : Nat) (w : World) (hV : VN w w.heap.size V (rwq p) (rwq q)) (hp : qw p ≤ 512) (hq : qw q ≤ 512) (hr : rdOk r) (h0 : qt q = 0) :
    Calls Tryz.prog 12 #[V, .int .i64 (r : Int)] w (RetT w (ratT (txt r) p, 0)) := by
  obtain ⟨A1, c1, D1, d1, A2, c2, D2, d2, rfl, p1, p2, p3, p4⟩ := hV
  simp only [rwq] at p1 p2 p3 p4 ⊢
  have hx : RQ w w.heap.size (.agg #[.bool (qn p), .slice A1 (digs (qt p)).length c1, .slice D1 (digs (qd p)).length d1]) p := ⟨A1, c1, D1, d1, rfl, p1, p2⟩
  have B1 := bal w (.cells #[.bool (qn p), .slice A1 (digs (qt p)).length c1, .slice D1 (digs (qd p)).length d1, .bool (qn q), .slice A2 (digs (qt q)).length c2, .slice D2 (digs (qd q)).length d2] 26)
  have s1 := SB.new w [.bool (qn p), .slice A1 (digs (qt p)).length c1, .slice D1 (digs (qd p)).length d1, .bool (qn q), .slice A2 (digs (qt q)).length c2, .slice D2 (digs (qd q)).length d2] 26
  have B2 := bal (w.alloc (.cells #[.bool (qn p), .slice A1 (digs (qt p)).length c1, .slice D1 (digs (qd p)).length d1, .bool (qn q), .slice A2 (digs (qt q)).length c2, .slice D2 (digs (qd q)).length d2] 26)) (.cells #[.bool (qn p), .slice A1 (digs (qt p)).length c1, .slice D1 (digs (qd p)).length d1, .bool (qn q), .slice A2 (digs (qt q)).length c2, .slice D2 (digs (qd q)).length d2] 26)
  have sg := SB.new (w.alloc (.cells #[.bool (qn p), .slice A1 (digs (qt p)).length c1, .slice D1 (digs (qd p)).length d1, .bool (qn q), .slice A2 (digs (qt q)).length c2, .slice D2 (digs (qd q)).length d2] 26)) [.bool (qn p), .slice A1 (digs (qt p)).length c1, .slice D1 (digs (qd p)).length d1, .bool (qn q), .slice A2 (digs (qt q)).length c2, .slice D2 (digs (qd q)).length d2] 26
  have z1 : (w.alloc (.cells #[.bool (qn p), .slice A1 (digs (qt p)).length c1, .slice D1 (digs (qd p)).length d1, .bool (qn q), .slice A2 (digs (qt q)).length c2, .slice D2 (digs (qd q)).length d2] 26)).heap.size = w.heap.size + 1 := by simp
  rw [z1] at sg
  have C1 := bt B1 B2
  have k1 := s1.nx B2
  have hck := check1x_any false (w.heap.size + 1) _ _ _ _ _ _ _ _ _ _ _ _ _ _ _ sg (st p1 C1) (st p2 C1) (st p3 C1) (st p4 C1)
  rw [chk_ok hp hq] at hck
  have hR := fun w' (B : Below w.heap.size w w') => ratText_any (.agg #[.bool (qn p), .slice A1 (digs (qt p)).length c1, .slice D1 (digs (qd p)).length d1]) p (r : Int) w' (hx.st B) hp (by have := hr.le; omega) (by have := hr.le; omega)
  rw [Int.toNat_natCast, ratTx_eq] at hR
  have e0 : (digs (qt q)).length = 0 := by rw [h0, digs_zero]; rfl
  generalize ratT (txt r) p = t at *
  generalize (digs (qt q)).length = n0 at *
  subst e0
  clear sg hx h0 hp hq
  unfold rdOk at hr
  rcases hr with rfl | rfl | rfl | rfl
  all_goals
    go_enter Tryz.func12, Tryz.ntmps12
    go_wp2_with fail
    refine hck.mono ?_; rintro e w3 ⟨rfl, B3⟩
    have k3 := k1.nx B3
    have m0 := k3.cell 0
    have m1 := k3.cell 1
    have m2 := k3.cell 2
    have m3 := k3.cell 3
    have m4 := k3.cell 4
    have m5 := k3.cell 5
    go_wp2_with fail
    refine (hR _ (bt C1 B3)).mono ?_; rintro e w4 ⟨rfl, B4⟩
    go_wp2_with fail
    go_ret2
    exact ⟨rfl, bt (bt C1 B3) B4⟩


set_option maxRecDepth 100000 in
set_option maxHeartbeats 16000000 in
theorem etext_cx (V : Value) (p q : Rat) (r : Nat) (w : World) (hV : VN w w.heap.size V (rwq p) (rwq q)) (hp : qw p ≤ 512) (hq : qw q ≤ 512) (hr : rdOk r) (h0 : ¬ qt q = 0) :
    Calls Tryz.prog 12 #[V, .int .i64 (r : Int)] w (RetT w (numT (txt r) p q, 0)) := by
  obtain ⟨A1, c1, D1, d1, A2, c2, D2, d2, rfl, p1, p2, p3, p4⟩ := hV
  simp only [rwq] at p1 p2 p3 p4 ⊢
  have hx : RQ w w.heap.size (.agg #[.bool (qn p), .slice A1 (digs (qt p)).length c1, .slice D1 (digs (qd p)).length d1]) p := ⟨A1, c1, D1, d1, rfl, p1, p2⟩
  have hy : RQ w w.heap.size (.agg #[.bool (qn q), .slice A2 (digs (qt q)).length c2, .slice D2 (digs (qd q)).length d2]) q := ⟨A2, c2, D2, d2, rfl, p3, p4⟩
  have B1 := bal w (.cells #[.bool (qn p), .slice A1 (digs (qt p)).length c1, .slice D1 (digs (qd p)).length d1, .bool (qn q), .slice A2 (digs (qt q)).length c2, .slice D2 (digs (qd q)).length d2] 26)
  have s1 := SB.new w [.bool (qn p), .slice A1 (digs (qt p)).length c1, .slice D1 (digs (qd p)).length d1, .bool (qn q), .slice A2 (digs (qt q)).length c2, .slice D2 (digs (qd q)).length d2] 26
  have B2 := bal (w.alloc (.cells #[.bool (qn p), .slice A1 (digs (qt p)).length c1, .slice D1 (digs (qd p)).length d1, .bool (qn q), .slice A2 (digs (qt q)).length c2, .slice D2 (digs (qd q)).length d2] 26)) (.cells #[.bool (qn p), .slice A1 (digs (qt p)).length c1, .slice D1 (digs (qd p)).length d1, .bool (qn q), .slice A2 (digs (qt q)).length c2, .slice D2 (digs (qd q)).length d2] 26)
  have sg := SB.new (w.alloc (.cells #[.bool (qn p), .slice A1 (digs (qt p)).length c1, .slice D1 (digs (qd p)).length d1, .bool (qn q), .slice A2 (digs (qt q)).length c2, .slice D2 (digs (qd q)).length d2] 26)) [.bool (qn p), .slice A1 (digs (qt p)).length c1, .slice D1 (digs (qd p)).length d1, .bool (qn q), .slice A2 (digs (qt q)).length c2, .slice D2 (digs (qd q)).length d2] 26
  have z1 : (w.alloc (.cells #[.bool (qn p), .slice A1 (digs (qt p)).length c1, .slice D1 (digs (qd p)).length d1, .bool (qn q), .slice A2 (digs (qt q)).length c2, .slice D2 (digs (qd q)).length d2] 26)).heap.size = w.heap.size + 1 := by simp
  rw [z1] at sg
  have C1 := bt B1 B2
  have k1 := s1.nx B2
  have hck := check1x_any false (w.heap.size + 1) _ _ _ _ _ _ _ _ _ _ _ _ _ _ _ sg (st p1 C1) (st p2 C1) (st p3 C1) (st p4 C1)
  rw [chk_ok hp hq] at hck
  have hR := fun w' (B : Below w.heap.size w w') => ratText_any (.agg #[.bool (qn p), .slice A1 (digs (qt p)).length c1, .slice D1 (digs (qd p)).length d1]) p (r : Int) w' (hx.st B) hp (by have := hr.le; omega) (by have := hr.le; omega)
  have hI := fun w' (B : Below w.heap.size w w') => ratText_any (.agg #[.bool (qn q), .slice A2 (digs (qt q)).length c2, .slice D2 (digs (qd q)).length d2]) q (r : Int) w' (hy.st B) hq (by have := hr.le; omega) (by have := hr.le; omega)
  rw [Int.toNat_natCast, ratTx_eq] at hR hI
  have tq : ¬ (digs (qt q)).length = 0 := fun h => h0 (digs_len0.1 h)
  have tq2 : (((digs (qt q)).length : Int) == 0) = false := beq_eq_false_iff_ne.2 (by omega)
  have lR := ratT_len hr hp
  have lI := ratT_len hr hq
  have lS := (imP_len hr hq).1
  have lT : ((imS (txt r) q).take 1).length ≤ 1 := by rw [List.length_take]; omega
  have hN : numT (txt r) p q = (if qt p = 0 then [] else ratT (txt r) p) ++ (imP (txt r) q ++ [105]) := by
    unfold numT
    rw [if_neg h0, ← imP_eq hr.le.1 (by have := hr.le; omega)]
  obtain ⟨T, hT⟩ : ∃ T, numT (txt r) p q = T := ⟨_, rfl⟩
  rw [hT] at hN ⊢
  clear hT
  replace hN := Lib.hid hN
  have hne : (imS (txt r) q).length ≠ 0 := by rw [imS_eq]; simp
  have hr' := hr
  clear sg hx hy hp hq h0 p1 p2 p3 p4 s1 B1 B2 z1
  obtain ⟨xr, hxr⟩ : ∃ x : ByteArray, x = ⟨(ratT (txt r) p).toArray⟩ := ⟨_, rfl⟩
  obtain ⟨xi, hxi⟩ : ∃ x : ByteArray, x = ⟨(ratT (txt r) q).toArray⟩ := ⟨_, rfl⟩
  obtain ⟨xs, hxs0⟩ : ∃ x : ByteArray, x = ⟨(imS (txt r) q).toArray⟩ := ⟨_, rfl⟩
  obtain ⟨xt, hxt⟩ : ∃ x : ByteArray, x = ⟨((imS (txt r) q).take 1).toArray⟩ := ⟨_, rfl⟩
  have hS : xs.data.toList = imS (txt r) q := by rw [hxs0]
  have ext1 : xs.extract 0 1 = xt := by rw [hxt]; exact take_eq xs _ hS
  have hsz : 1 ≤ xs.size := by have := s_len xs; rw [hS] at this; omega
  have hszI : (1 : Int) ≤ (xs.size : Int) := by omega
  rw [← hxr] at hR
  rw [← hxi] at hI
  go_enter Tryz.func12, Tryz.ntmps12
  go_wp2_with fail
  refine hck.mono ?_; rintro e w3 ⟨rfl, B3⟩
  replace k1 := k1.nx B3
  replace C1 := bt C1 B3
  clear B3 hck
  go_upto_region 4 with fail
  go_cut [27] (fun s27 wx => s27 = .bool false ∧ w3 = wx)
  case first =>
    unfold rdOk at hr'
    rcases hr' with rfl | rfl | rfl | rfl
    all_goals
      go_wp2_with fail
      go_meet
      exact ⟨rfl, rfl⟩
  case rest =>
    obtain ⟨rfl, hwc⟩ := hcut
    subst hwc
    clear hr'
    cases hn : qn q with
    | true =>
      have hs1 : imS (txt r) q = ratT (txt r) q := by unfold imS; rw [hn]; rfl
      have hxs := hxs0
      have e0 : xs = xi := by rw [hxi, hxs0, hs1]
      subst e0
      rw [hn] at k1 hI
      clear hn hs1
      by_cases ht : (imS (txt r) q).tail = [49]
      · have tt : ((xs.extract 1 xs.size).toList == [49]) = true := by rw [tail_eq, hxs, ba_toList]; exact decide_eq_true ht
        by_cases h1 : qt p = 0
        · have hv1 : imP (txt r) q = (imS (txt r) q).take 1 := by unfold imP; rw [if_pos ht]
          have HE := Lib.hid (show T = ((imS (txt r) q).take 1) ++ [105] by rw [hN.out, hv1, if_pos h1, List.nil_append])
          obtain ⟨zb, hzb⟩ : ∃ x : ByteArray, x = ⟨T.toArray⟩ := ⟨_, rfl⟩
          rw [HE.out] at hzb
          have a2 := fun w => str_add (b := ⟨#[105]⟩) (y := [105]) hxt rfl hzb (by have := lS; have := lT; simp only [List.length_cons, List.length_nil]; omega) w
          replace hzb := Lib.hid hzb
          clear hv1 hN
          have tp : decide (0 < (digs (qt p)).length) = false := decide_eq_false (by have := digs_len0 (n := qt p); omega)
          clear ht h1 hxs hxs0 hxi hxr hxt lI lR lS lT hS
          have m0 := k1.cell 0
          have m1 := k1.cell 1
          have m2 := k1.cell 2
          have m3 := k1.cell 3
          have m4 := k1.cell 4
          have m5 := k1.cell 5
          go_wp2_with fail
          refine (hI _ C1).mono ?_; rintro e w5 ⟨rfl, B5⟩
          have k5 := k1.nx B5
          replace C1 := bt C1 B5
          clear m0 m1 m2 m3 m4 m5
          clear k1 B5
          have k1 := k5
          clear k5
          have m0 := k1.cell 0
          have m1 := k1.cell 1
          have m2 := k1.cell 2
          have m3 := k1.cell 3
          have m4 := k1.cell 4
          have m5 := k1.cell 5
          go_wp2_with fail
          go_ret2
          rw [hzb.out, ← HE.out]
          exact ⟨rfl, C1⟩
        · have hv1 : imP (txt r) q = (imS (txt r) q).take 1 := by unfold imP; rw [if_pos ht]
          have HE := Lib.hid (show T = (ratT (txt r) p ++ ((imS (txt r) q).take 1)) ++ [105] by rw [hN.out, hv1, if_neg h1, List.append_assoc])
          obtain ⟨zb, hzb⟩ : ∃ x : ByteArray, x = ⟨T.toArray⟩ := ⟨_, rfl⟩
          rw [HE.out] at hzb
          obtain ⟨yb, hyb⟩ : ∃ x : ByteArray, x = ⟨(ratT (txt r) p ++ ((imS (txt r) q).take 1)).toArray⟩ := ⟨_, rfl⟩
          have a1 := fun w => str_add hxr hxt hyb (by have := lR; have := lS; have := lT; omega) w
          have a2 := fun w => str_add (b := ⟨#[105]⟩) (y := [105]) hyb rfl hzb (by rw [List.length_append]; have := lR; have := lS; have := lT; simp only [List.length_cons, List.length_nil]; omega) w
          replace hzb := Lib.hid hzb
          clear hv1 hN
          replace hyb := Lib.hid hyb
          have tp : decide (0 < (digs (qt p)).length) = true := decide_eq_true (by have := digs_len0 (n := qt p); omega)
          clear ht h1 hxs hxs0 hxi hxr hxt lI lR lS lT hS
          have m0 := k1.cell 0
          have m1 := k1.cell 1
          have m2 := k1.cell 2
          have m3 := k1.cell 3
          have m4 := k1.cell 4
          have m5 := k1.cell 5
          go_wp2_with fail
          refine (hI _ C1).mono ?_; rintro e w5 ⟨rfl, B5⟩
          have k5 := k1.nx B5
          replace C1 := bt C1 B5
          clear m0 m1 m2 m3 m4 m5
          clear k1 B5
          have k1 := k5
          clear k5
          have m0 := k1.cell 0
          have m1 := k1.cell 1
          have m2 := k1.cell 2
          have m3 := k1.cell 3
          have m4 := k1.cell 4
          have m5 := k1.cell 5
          go_wp2_with fail
          refine (hR _ C1).mono ?_; rintro e w6 ⟨rfl, B6⟩
          replace C1 := bt C1 B6
          clear m0 m1 m2 m3 m4 m5
          go_wp2_with fail
          go_ret2
          rw [hzb.out, ← HE.out]
          exact ⟨rfl, C1⟩
      · have tt : ((xs.extract 1 xs.size).toList == [49]) = false := by rw [tail_eq, hxs, ba_toList]; exact decide_eq_false ht
        by_cases h1 : qt p = 0
        · have hv1 : imP (txt r) q = imS (txt r) q := by unfold imP; rw [if_neg ht]
          have HE := Lib.hid (show T = (imS (txt r) q) ++ [105] by rw [hN.out, hv1, if_pos h1, List.nil_append])
          obtain ⟨zb, hzb⟩ : ∃ x : ByteArray, x = ⟨T.toArray⟩ := ⟨_, rfl⟩
          rw [HE.out] at hzb
          have a2 := fun w => str_add (b := ⟨#[105]⟩) (y := [105]) hxs rfl hzb (by have := lS; have := lT; simp only [List.length_cons, List.length_nil]; omega) w
          replace hzb := Lib.hid hzb
          clear hv1 hN
          have tp : decide (0 < (digs (qt p)).length) = false := decide_eq_false (by have := digs_len0 (n := qt p); omega)
          clear ht h1 hxs hxs0 hxi hxr hxt lI lR lS lT hS
          have m0 := k1.cell 0
          have m1 := k1.cell 1
          have m2 := k1.cell 2
          have m3 := k1.cell 3
          have m4 := k1.cell 4
          have m5 := k1.cell 5
          go_wp2_with fail
          refine (hI _ C1).mono ?_; rintro e w5 ⟨rfl, B5⟩
          have k5 := k1.nx B5
          replace C1 := bt C1 B5
          clear m0 m1 m2 m3 m4 m5
          clear k1 B5
          have k1 := k5
          clear k5
          have m0 := k1.cell 0
          have m1 := k1.cell 1
          have m2 := k1.cell 2
          have m3 := k1.cell 3
          have m4 := k1.cell 4
          have m5 := k1.cell 5
          go_wp2_with fail
          go_ret2
          rw [hzb.out, ← HE.out]
          exact ⟨rfl, C1⟩
        · have hv1 : imP (txt r) q = imS (txt r) q := by unfold imP; rw [if_neg ht]
          have HE := Lib.hid (show T = (ratT (txt r) p ++ (imS (txt r) q)) ++ [105] by rw [hN.out, hv1, if_neg h1, List.append_assoc])
          obtain ⟨zb, hzb⟩ : ∃ x : ByteArray, x = ⟨T.toArray⟩ := ⟨_, rfl⟩
          rw [HE.out] at hzb
          obtain ⟨yb, hyb⟩ : ∃ x : ByteArray, x = ⟨(ratT (txt r) p ++ (imS (txt r) q)).toArray⟩ := ⟨_, rfl⟩
          have a1 := fun w => str_add hxr hxs hyb (by have := lR; have := lS; have := lT; omega) w
          have a2 := fun w => str_add (b := ⟨#[105]⟩) (y := [105]) hyb rfl hzb (by rw [List.length_append]; have := lR; have := lS; have := lT; simp only [List.length_cons, List.length_nil]; omega) w
          replace hzb := Lib.hid hzb
          clear hv1 hN
          replace hyb := Lib.hid hyb
          have tp : decide (0 < (digs (qt p)).length) = true := decide_eq_true (by have := digs_len0 (n := qt p); omega)
          clear ht h1 hxs hxs0 hxi hxr hxt lI lR lS lT hS
          have m0 := k1.cell 0
          have m1 := k1.cell 1
          have m2 := k1.cell 2
          have m3 := k1.cell 3
          have m4 := k1.cell 4
          have m5 := k1.cell 5
          go_wp2_with fail
          refine (hI _ C1).mono ?_; rintro e w5 ⟨rfl, B5⟩
          have k5 := k1.nx B5
          replace C1 := bt C1 B5
          clear m0 m1 m2 m3 m4 m5
          clear k1 B5
          have k1 := k5
          clear k5
          have m0 := k1.cell 0
          have m1 := k1.cell 1
          have m2 := k1.cell 2
          have m3 := k1.cell 3
          have m4 := k1.cell 4
          have m5 := k1.cell 5
          go_wp2_with fail
          refine (hR _ C1).mono ?_; rintro e w6 ⟨rfl, B6⟩
          replace C1 := bt C1 B6
          clear m0 m1 m2 m3 m4 m5
          go_wp2_with fail
          go_ret2
          rw [hzb.out, ← HE.out]
          exact ⟨rfl, C1⟩
    | false =>
      have hs1 : imS (txt r) q = 43 :: ratT (txt r) q := by unfold imS; rw [hn]; rfl
      have hxs := hxs0
      have a0 := fun w => str_add (a := ⟨#[43]⟩) (x := [43]) rfl hxi (hxs0.trans (by rw [hs1]; rfl)) (by simp only [List.length_cons, List.length_nil]; have := lI; omega) w
      rw [hn] at k1 hI
      clear hn hs1
      by_cases ht : (imS (txt r) q).tail = [49]
      · have tt : ((xs.extract 1 xs.size).toList == [49]) = true := by rw [tail_eq, hxs, ba_toList]; exact decide_eq_true ht
        by_cases h1 : qt p = 0
        · have hv1 : imP (txt r) q = (imS (txt r) q).take 1 := by unfold imP; rw [if_pos ht]
          have HE := Lib.hid (show T = ((imS (txt r) q).take 1) ++ [105] by rw [hN.out, hv1, if_pos h1, List.nil_append])
          obtain ⟨zb, hzb⟩ : ∃ x : ByteArray, x = ⟨T.toArray⟩ := ⟨_, rfl⟩
          rw [HE.out] at hzb
          have a2 := fun w => str_add (b := ⟨#[105]⟩) (y := [105]) hxt rfl hzb (by have := lS; have := lT; simp only [List.length_cons, List.length_nil]; omega) w
          replace hzb := Lib.hid hzb
          clear hv1 hN
          have tp : decide (0 < (digs (qt p)).length) = false := decide_eq_false (by have := digs_len0 (n := qt p); omega)
          clear ht h1 hxs hxs0 hxi hxr hxt lI lR lS lT hS
          have m0 := k1.cell 0
          have m1 := k1.cell 1
          have m2 := k1.cell 2
          have m3 := k1.cell 3
          have m4 := k1.cell 4
          have m5 := k1.cell 5
          go_wp2_with fail
          refine (hI _ C1).mono ?_; rintro e w5 ⟨rfl, B5⟩
          have k5 := k1.nx B5
          replace C1 := bt C1 B5
          clear m0 m1 m2 m3 m4 m5
          clear k1 B5
          have k1 := k5
          clear k5
          have m0 := k1.cell 0
          have m1 := k1.cell 1
          have m2 := k1.cell 2
          have m3 := k1.cell 3
          have m4 := k1.cell 4
          have m5 := k1.cell 5
          go_wp2_with fail
          go_ret2
          rw [hzb.out, ← HE.out]
          exact ⟨rfl, C1⟩
        · have hv1 : imP (txt r) q = (imS (txt r) q).take 1 := by unfold imP; rw [if_pos ht]
          have HE := Lib.hid (show T = (ratT (txt r) p ++ ((imS (txt r) q).take 1)) ++ [105] by rw [hN.out, hv1, if_neg h1, List.append_assoc])
          obtain ⟨zb, hzb⟩ : ∃ x : ByteArray, x = ⟨T.toArray⟩ := ⟨_, rfl⟩
          rw [HE.out] at hzb
          obtain ⟨yb, hyb⟩ : ∃ x : ByteArray, x = ⟨(ratT (txt r) p ++ ((imS (txt r) q).take 1)).toArray⟩ := ⟨_, rfl⟩
          have a1 := fun w => str_add hxr hxt hyb (by have := lR; have := lS; have := lT; omega) w
          have a2 := fun w => str_add (b := ⟨#[105]⟩) (y := [105]) hyb rfl hzb (by rw [List.length_append]; have := lR; have := lS; have := lT; simp only [List.length_cons, List.length_nil]; omega) w
          replace hzb := Lib.hid hzb
          clear hv1 hN
          replace hyb := Lib.hid hyb
          have tp : decide (0 < (digs (qt p)).length) = true := decide_eq_true (by have := digs_len0 (n := qt p); omega)
          clear ht h1 hxs hxs0 hxi hxr hxt lI lR lS lT hS
          have m0 := k1.cell 0
          have m1 := k1.cell 1
          have m2 := k1.cell 2
          have m3 := k1.cell 3
          have m4 := k1.cell 4
          have m5 := k1.cell 5
          go_wp2_with fail
          refine (hI _ C1).mono ?_; rintro e w5 ⟨rfl, B5⟩
          have k5 := k1.nx B5
          replace C1 := bt C1 B5
          clear m0 m1 m2 m3 m4 m5
          clear k1 B5
          have k1 := k5
          clear k5
          have m0 := k1.cell 0
          have m1 := k1.cell 1
          have m2 := k1.cell 2
          have m3 := k1.cell 3
          have m4 := k1.cell 4
          have m5 := k1.cell 5
          go_wp2_with fail
          refine (hR _ C1).mono ?_; rintro e w6 ⟨rfl, B6⟩
          replace C1 := bt C1 B6
          clear m0 m1 m2 m3 m4 m5
          go_wp2_with fail
          go_ret2
          rw [hzb.out, ← HE.out]
          exact ⟨rfl, C1⟩
      · have tt : ((xs.extract 1 xs.size).toList == [49]) = false := by rw [tail_eq, hxs, ba_toList]; exact decide_eq_false ht
        by_cases h1 : qt p = 0
        · have hv1 : imP (txt r) q = imS (txt r) q := by unfold imP; rw [if_neg ht]
          have HE := Lib.hid (show T = (imS (txt r) q) ++ [105] by rw [hN.out, hv1, if_pos h1, List.nil_append])
          obtain ⟨zb, hzb⟩ : ∃ x : ByteArray, x = ⟨T.toArray⟩ := ⟨_, rfl⟩
          rw [HE.out] at hzb
          have a2 := fun w => str_add (b := ⟨#[105]⟩) (y := [105]) hxs rfl hzb (by have := lS; have := lT; simp only [List.length_cons, List.length_nil]; omega) w
          replace hzb := Lib.hid hzb
          clear hv1 hN
          have tp : decide (0 < (digs (qt p)).length) = false := decide_eq_false (by have := digs_len0 (n := qt p); omega)
          clear ht h1 hxs hxs0 hxi hxr hxt lI lR lS lT hS
          have m0 := k1.cell 0
          have m1 := k1.cell 1
          have m2 := k1.cell 2
          have m3 := k1.cell 3
          have m4 := k1.cell 4
          have m5 := k1.cell 5
          go_wp2_with fail
          refine (hI _ C1).mono ?_; rintro e w5 ⟨rfl, B5⟩
          have k5 := k1.nx B5
          replace C1 := bt C1 B5
          clear m0 m1 m2 m3 m4 m5
          clear k1 B5
          have k1 := k5
          clear k5
          have m0 := k1.cell 0
          have m1 := k1.cell 1
          have m2 := k1.cell 2
          have m3 := k1.cell 3
          have m4 := k1.cell 4
          have m5 := k1.cell 5
          go_wp2_with fail
          go_ret2
          rw [hzb.out, ← HE.out]
          exact ⟨rfl, C1⟩
        · have hv1 : imP (txt r) q = imS (txt r) q := by unfold imP; rw [if_neg ht]
          have HE := Lib.hid (show T = (ratT (txt r) p ++ (imS (txt r) q)) ++ [105] by rw [hN.out, hv1, if_neg h1, List.append_assoc])
          obtain ⟨zb, hzb⟩ : ∃ x : ByteArray, x = ⟨T.toArray⟩ := ⟨_, rfl⟩
          rw [HE.out] at hzb
          obtain ⟨yb, hyb⟩ : ∃ x : ByteArray, x = ⟨(ratT (txt r) p ++ (imS (txt r) q)).toArray⟩ := ⟨_, rfl⟩
          have a1 := fun w => str_add hxr hxs hyb (by have := lR; have := lS; have := lT; omega) w
          have a2 := fun w => str_add (b := ⟨#[105]⟩) (y := [105]) hyb rfl hzb (by rw [List.length_append]; have := lR; have := lS; have := lT; simp only [List.length_cons, List.length_nil]; omega) w
          replace hzb := Lib.hid hzb
          clear hv1 hN
          replace hyb := Lib.hid hyb
          have tp : decide (0 < (digs (qt p)).length) = true := decide_eq_true (by have := digs_len0 (n := qt p); omega)
          clear ht h1 hxs hxs0 hxi hxr hxt lI lR lS lT hS
          have m0 := k1.cell 0
          have m1 := k1.cell 1
          have m2 := k1.cell 2
          have m3 := k1.cell 3
          have m4 := k1.cell 4
          have m5 := k1.cell 5
          go_wp2_with fail
          refine (hI _ C1).mono ?_; rintro e w5 ⟨rfl, B5⟩
          have k5 := k1.nx B5
          replace C1 := bt C1 B5
          clear m0 m1 m2 m3 m4 m5
          clear k1 B5
          have k1 := k5
          clear k5
          have m0 := k1.cell 0
          have m1 := k1.cell 1
          have m2 := k1.cell 2
          have m3 := k1.cell 3
          have m4 := k1.cell 4
          have m5 := k1.cell 5
          go_wp2_with fail
          refine (hR _ C1).mono ?_; rintro e w6 ⟨rfl, B6⟩
          replace C1 := bt C1 B6
          clear m0 m1 m2 m3 m4 m5
          go_wp2_with fail
          go_ret2
          rw [hzb.out, ← HE.out]
          exact ⟨rfl, C1⟩

theorem etext_any (V : Value) (r i : Rw) (b : Int) (w : World) (hV : VN w w.heap.size V r i) : Calls Tryz.prog 12 #[V, .int .i64 b] w (RetT w (textZ r i b)) := by
  cases hb : nB r i with
  | false => rw [textZ_bad b hb]; exact etext_bad V r i b w hV hb
  | true =>
    obtain ⟨p, q, rfl, rfl, hp, hq⟩ := nB_rat hb
    by_cases h : b = 2 ∨ b = 8 ∨ b = 10 ∨ b = 16
    · obtain ⟨k, rfl⟩ := Int.eq_ofNat_of_zero_le (show 0 ≤ b by omega)
      have hk : rdOk k := by unfold rdOk; omega
      rw [textZ_ok hb hk, qv_rwq, qv_rwq]
      by_cases h0 : qt q = 0
      · have := etext_real V p q k w hV hp hq hk h0
        unfold numT
        rw [if_pos h0]
        exact this
      · exact etext_cx V p q k w hV hp hq hk h0
    · rw [textZ_arg hb h]; exact etext_arg V p q b w hV hp hq h
end Go.Proofs.YtbgggepdlkbpoaaGreatDoor
