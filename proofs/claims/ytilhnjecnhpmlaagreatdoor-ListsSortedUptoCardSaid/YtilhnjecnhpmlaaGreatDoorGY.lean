/- Merged texts: ExR, RunA, RunP, RunB, DatS. -/
import Derived.Test.YtilhnjecnhpmlaaGreatDoorGI
import Derived.Test.YtilhnjecnhpmlaaGreatDoorGE
import Derived.Test.YtilhnjecnhpmlaaGreatDoorGL
import Derived.Test.YtilhnjecnhpmlaaGreatDoorGQ
import Derived.Laws.RangeAny
import Derived.Lib.MapLaws
import Derived.Test.YtilhnjecnhpmlaaGreatDoorGJ
namespace Go.Proofs.YtilhnjecnhpmlaaGreatDoor
open Go.RowKit


set_option maxRecDepth 100000 in
set_option maxHeartbeats 16000000 in
theorem rratOrder_any (V U : Value) (x y : Rat) (w : World) (hx : RQ w w.heap.size V x) (hy : RQ w w.heap.size U y) (hb' : qw x + qw y ≤ 14000) :
    Calls Tryz.prog 91 #[V, U] w fun e w' => e = .returned (.int .i64 (cmpQ x y)) ∧ Below w.heap.size w w' := by
  obtain ⟨A1, c1, D1, d1, rfl, r1, r2⟩ := hx
  obtain ⟨A2, c2, D2, d2, rfl, r3, r4⟩ := hy
  have hx : RQ w w.heap.size (.agg #[.bool (qn x), .slice A1 (digs (qt x)).length c1, .slice D1 (digs (qd x)).length d1]) x := ⟨A1, c1, D1, d1, rfl, r1, r2⟩
  have k0 := T2.new w [.bool (qn x), .slice A1 (digs (qt x)).length c1, .slice D1 (digs (qd x)).length d1] [.bool (qn y), .slice A2 (digs (qt y)).length c2, .slice D2 (digs (qd y)).length d2] 24 24
  have hb : qw x + qw (-y) ≤ 14000 := by rw [qw_neg]; exact hb'
  have conjS : ∀ w', T2 w w.heap.size [.bool (qn x), .slice A1 (digs (qt x)).length c1, .slice D1 (digs (qd x)).length d1] [.bool (qn y), .slice A2 (digs (qt y)).length c2, .slice D2 (digs (qd y)).length d2] w' → w'.cell? ⟨w.heap.size, 0, none⟩ = some (.bool (qn x)) ∧ w'.cell? ⟨w.heap.size, 1, none⟩ = some (.slice A1 (digs (qt x)).length c1) ∧ w'.cell? ⟨w.heap.size, 2, none⟩ = some (.slice D1 (digs (qd x)).length d1) ∧ w'.cell? ⟨w.heap.size + 1, 0, none⟩ = some (.bool (qn y)) ∧ w'.cell? ⟨w.heap.size + 1, 1, none⟩ = some (.slice A2 (digs (qt y)).length c2) ∧ w'.cell? ⟨w.heap.size + 1, 2, none⟩ = some (.slice D2 (digs (qd y)).length d2) ∧ T2 w w.heap.size [.bool (qn x), .slice A1 (digs (qt x)).length c1, .slice D1 (digs (qd x)).length d1] [.bool (qn y), .slice A2 (digs (qt y)).length c2, .slice D2 (digs (qd y)).length d2] w' := fun w' h => ⟨h.1.cell 0, h.1.cell 1, h.1.cell 2, h.2.1.cell 0, h.2.1.cell 1, h.2.1.cell 2, h⟩
  obtain ⟨z, hz⟩ : ∃ z, Hid (cmpQ x y = z) := ⟨_, rfl⟩
  rw [hz.out]
  go_enter Tryz.func91, Tryz.ntmps91
  obtain ⟨W0, hW0⟩ : ∃ W0, W0 = (w.alloc (.cells #[.bool (qn x), .slice A1 (digs (qt x)).length c1, .slice D1 (digs (qd x)).length d1] 24)).alloc (.cells #[.bool (qn y), .slice A2 (digs (qt y)).length c2, .slice D2 (digs (qd y)).length d2] 24) := ⟨_, rfl⟩
  go_wp2_with fail
  rw [← hW0] at k0 ⊢
  clear hW0
  have z00 := k0.2.1.2
  go_upto_region 1 with fail
  go_cut [5] (fun s5 wx => ∃ (g : Nat) (A : Option Addr) (c : Nat) (D : Option Addr) (d : Nat), s5 = .pointer (some ⟨g, 0, none⟩) ∧ SB wx g [.bool (qn (x + -y)), .slice A (digs (qt (x + -y))).length c, .slice D (digs (qd (x + -y))).length d] ∧ Below w.heap.size w wx)
  case first =>
    have k0d := k0.dr
    have k0s := And.intro (k0d.1.cell 0) (And.intro (k0d.1.cell 1) (And.intro (k0d.1.cell 2) (And.intro (k0d.2.1.cell 0) (And.intro (k0d.2.1.cell 1) (And.intro (k0d.2.1.cell 2) (k0d))))))
    go_region_held3 (fun w' => w'.cell? ⟨w.heap.size, 0, none⟩ = some (.bool (qn x)) ∧ w'.cell? ⟨w.heap.size, 1, none⟩ = some (.slice A1 (digs (qt x)).length c1) ∧ w'.cell? ⟨w.heap.size, 2, none⟩ = some (.slice D1 (digs (qd x)).length d1) ∧ w'.cell? ⟨w.heap.size + 1, 0, none⟩ = some (.bool (qn y)) ∧ w'.cell? ⟨w.heap.size + 1, 1, none⟩ = some (.slice A2 (digs (qt y)).length c2) ∧ w'.cell? ⟨w.heap.size + 1, 2, none⟩ = some (.slice D2 (digs (qd y)).length d2) ∧ T2 w w.heap.size [.bool (qn x), .slice A1 (digs (qt x)).length c1, .slice D1 (digs (qd x)).length d1] [.bool (qn y), .slice A2 (digs (qt y)).length c2, .slice D2 (digs (qd y)).length d2] w')
      (first
        | with_reducible exact kws.out
        | with_reducible exact k0s
        | (have s1 := (by with_reducible assumption : _ ∧ _ ∧ _ ∧ _ ∧ _ ∧ _ ∧ T2 w w.heap.size [.bool (qn x), .slice A1 (digs (qt x)).length c1, .slice D1 (digs (qd x)).length d1] [.bool (qn y), .slice A2 (digs (qt y)).length c2, .slice D2 (digs (qd y)).length d2] _).2.2.2.2.2.2.nx BX; have q0_ := s1.1.cell 0; have q1_ := s1.1.cell 1; have q2_ := s1.1.cell 2; have q3_ := s1.2.1.cell 0; have q4_ := s1.2.1.cell 1; have q5_ := s1.2.1.cell 2; with_reducible exact ⟨q0_, q1_, q2_, q3_, q4_, q5_, s1⟩)
        | with_reducible exact conjS _ ((by with_reducible assumption : _ ∧ _ ∧ _ ∧ _ ∧ _ ∧ _ ∧ T2 w w.heap.size [.bool (qn x), .slice A1 (digs (qt x)).length c1, .slice D1 (digs (qd x)).length d1] [.bool (qn y), .slice A2 (digs (qt y)).length c2, .slice D2 (digs (qd y)).length d2] _).2.2.2.2.2.2.nx (bal _ _))
        | (with_reducible refine conjS _ (T2.re (by with_reducible assumption : _ ∧ _ ∧ _ ∧ _ ∧ _ ∧ _ ∧ T2 w w.heap.size [.bool (qn x), .slice A1 (digs (qt x)).length c1, .slice D1 (digs (qd x)).length d1] [.bool (qn y), .slice A2 (digs (qt y)).length c2, .slice D2 (digs (qd y)).length d2] _).2.2.2.2.2.2 ?_); assumption))
      (first
        | (go_at_call 108; have hh := (by with_reducible assumption : _ ∧ _ ∧ _ ∧ _ ∧ _ ∧ _ ∧ T2 w w.heap.size [.bool (qn x), .slice A1 (digs (qt x)).length c1, .slice D1 (digs (qd x)).length d1] [.bool (qn y), .slice A2 (digs (qt y)).length c2, .slice D2 (digs (qd y)).length d2] _).2.2.2.2.2.2; refine (rminus_any y A2 D2 c2 d2 _).mono ?_; rintro e w12 ⟨rfl, BX⟩; have B12 := BX; have z12 := (hh.nx BX).2.1.2; (first | (have sg := sg.nx BX; have g0 := sg.cell 0; have g1 := sg.cell 1; have g2 := sg.cell 2; have h0 := sg.frozen 0; have h1 := sg.frozen 1; have h2 := sg.frozen 2) | (have sg := (SB.new _ [.bool false, .slice none 0 0, .slice none 0 0] 24).nx BX; have g0 := sg.cell 0; have g1 := sg.cell 1; have g2 := sg.cell 2; have h0 := sg.frozen 0; have h1 := sg.frozen 1; have h2 := sg.frozen 2) | (have sg := ((SB.new _ [.bool false, .slice none 0 0, .slice none 0 0] 24).nx (Below.drew (Below.refl _ _))).nx BX; have g0 := sg.cell 0; have g1 := sg.cell 1; have g2 := sg.cell 2; have h0 := sg.frozen 0; have h1 := sg.frozen 1; have h2 := sg.frozen 2) | skip))
        | ((first | have gl := sg.2 | skip); go_at_call 107; have hh := (by with_reducible assumption : _ ∧ _ ∧ _ ∧ _ ∧ _ ∧ _ ∧ T2 w w.heap.size [.bool (qn x), .slice A1 (digs (qt x)).length c1, .slice D1 (digs (qd x)).length d1] [.bool (qn y), .slice A2 (digs (qt y)).length c2, .slice D2 (digs (qd y)).length d2] _).2.2.2.2.2.2; refine (rsum_any _ _ x (-y) _ (hx.st hh.2.2) ⟨A2, c2, D2, d2, rfl, by rw [q_neg_t]; exact st r3 hh.2.2, by rw [q_neg_d]; exact st r4 hh.2.2⟩ hb).mono ?_; rintro e w16 ⟨A16, c16, D16, d16, rfl, O16, P16, BX⟩; have B16 := BX; have z16 := (hh.nx BX).2.1.2; have kk := hh.nx BX; (first | (have sg := sg.nx BX; have g0 := sg.cell 0; have g1 := sg.cell 1; have g2 := sg.cell 2; have h0 := sg.frozen 0; have h1 := sg.frozen 1; have h2 := sg.frozen 2) | (have sg := (SB.new _ [.bool false, .slice none 0 0, .slice none 0 0] 24).nx BX; have g0 := sg.cell 0; have g1 := sg.cell 1; have g2 := sg.cell 2; have h0 := sg.frozen 0; have h1 := sg.frozen 1; have h2 := sg.frozen 2) | (have sg := ((SB.new _ [.bool false, .slice none 0 0, .slice none 0 0] 24).nx (Below.drew (Below.refl _ _))).nx BX; have g0 := sg.cell 0; have g1 := sg.cell 1; have g2 := sg.cell 2; have h0 := sg.frozen 0; have h1 := sg.frozen 1; have h2 := sg.frozen 2) | skip); (first | (have gz := gt1 (n := w.heap.size) sg (by first | assumption | (simp; omega)); have kw := Lib.hid (T2.wr kk gz (.bool (qn (x + -y))) (.slice A16 (digs (qt (x + -y))).length c16) (.slice D16 (digs (qd (x + -y))).length d16)); have kws := Lib.hid (conjS _ kw.out)) | skip)))
    all_goals
      go_wp2_with fail
      go_meet
      first
        | exact ⟨_, A16, c16, D16, d16, rfl, SB.new w16 _ _, (kk.nx (bal _ _)).2.2⟩
        | exact ⟨_, A16, c16, D16, d16, rfl, SB.put3 sg _ _ _, kw.out.2.2⟩
  case rest =>
    obtain ⟨g, A, c, D, d, rfl, sg, BZ⟩ := hcut
    have hz := hz.out
    unfold cmpQ at hz
    have g0 := sg.cell 0
    have g1 := sg.cell 1
    have ht : (digs (qt (x + -y))).length = 0 ↔ qt (x + -y) = 0 := digs_len0
    have hzn : qt (x + -y) = 0 → qn (x + -y) = false := qn_zero
    generalize qt (x + -y) = t at *
    generalize (digs t).length = n at *
    clear k0 sg hx hb hb' conjS r1 r2 r3 r4
    generalize qn (x + -y) = s at *
    by_cases h0 : n = 0
    · have ht0 := ht.1 h0
      rw [hzn ht0, if_neg (by simp), if_neg (by omega)] at hz
      subst hz
      subst h0
      clear hzn ht ht0
      go_wp2_with fail
      go_ret
      exact ⟨rfl, BZ⟩
    · have ht0 : 0 < t := by omega
      have h1 : ((n : Int) == 0) = false := beq_eq_false_iff_ne.2 (by omega)
      clear ht hzn
      cases s with
      | true =>
        rw [if_pos rfl] at hz
        subst hz
        clear ht0
        go_wp2_with fail
        go_ret
        exact ⟨rfl, BZ⟩
      | false =>
        rw [if_neg (by simp), if_pos ht0] at hz
        subst hz
        clear ht0
        go_wp2_with fail
        go_ret
        exact ⟨rfl, BZ⟩


end Go.Proofs.YtilhnjecnhpmlaaGreatDoor
namespace Go.Proofs.YtilhnjecnhpmlaaGreatDoor
open Go.RowKit

theorem ints_any (x y : Int) (w : World) : Calls Tryz.prog 90 #[.int .i64 x, .int .i64 y] w fun e w' => e = .returned (.int .i64 (cmpZ x y)) ∧ w = w' := by
  obtain ⟨z, hz⟩ : ∃ z, Hid (cmpZ x y = z) := ⟨_, rfl⟩
  rw [hz.out]
  by_cases h1 : x < y
  · have hf : Hid (z = -1) := Lib.hid (by rw [← hz.out]; unfold cmpZ; rw [if_pos h1])
    clear hz
    go_enter Tryz.func90, Tryz.ntmps90
    go_wp2_with fail
    go_ret
    exact ⟨by rw [hf.out]; rfl, rfl⟩
  · by_cases h2 : y < x
    · have hf : Hid (z = 1) := Lib.hid (by rw [← hz.out]; unfold cmpZ; rw [if_neg h1, if_pos h2])
      clear hz
      go_enter Tryz.func90, Tryz.ntmps90
      go_wp2_with fail
      go_ret
      exact ⟨by rw [hf.out]; rfl, rfl⟩
    · have hf : Hid (z = 0) := Lib.hid (by rw [← hz.out]; unfold cmpZ; rw [if_neg h1, if_neg h2])
      clear hz
      go_enter Tryz.func90, Tryz.ntmps90
      go_wp2_with fail
      go_ret
      exact ⟨by rw [hf.out]; rfl, rfl⟩

/-- a character's cell -/
def fr (x : Nat) : Value := .int .i32 (x : Int)
theorem infoI32 : (Tryz.prog.info? 21).map (fun i => (i.zero, i.size, i.bytes)) = some (some (fr 0), 1, 4) := by kernel_rfl
theorem wp_appRn (w : World) {ops : Array Oper} {rest : List Oper} {o : Oper} {a : Act} {Q : Exit → Act → World → Prop}
    (hg : o.guard = none) (s x : Operand) (hop : o.op = Op.call { callee := Callee.builtin Builtin.append, args := #[s, x], argTypes := #[103, 103] })
    (base : Nat) (A : Option Addr) (c n : Nat) (l : List Nat) (hs : a.eval s = .slice A n c) (hn : n = l.length) (hown : OL 21 fr w base A c l)
    (D : Option Addr) (d m : Nat) (r : List Nat) (hx : a.eval x = .slice D m d) (hm : m = r.length) (Br : Nat) (hr : RL fr w Br D d r)
    (hlen : l.length + r.length ≤ 35184372088832) (hbase : base ≤ w.heap.size)
    (hK : ∀ A' c' w', OL 21 fr w' base A' c' (l ++ r) → w.grownBy w' (Value.slice A n c).ownBlock → (∀ g, A' = some ⟨g, 0, none⟩ → g < w.heap.size → A = some ⟨g, 0, none⟩) → wpList Tryz.prog ops Q rest (a.put o.dst (.slice A' (l ++ r).length c')) w') :
    wpList Tryz.prog ops Q (o :: rest) a w :=
  wp_app w 103 21 fr 0 4 Tryz.underlying103 infoI32 (fun _ => ⟨rfl, rfl⟩) hg s x hop base A c n l hs hn hown D d m r hx hm Br hr hlen (by omega) hbase hK
theorem RR.one (w : World) (t : TypeId) (x : Nat) : RL fr (w.alloc (.cells #[.int .i32 (x : Int)] t)) (w.heap.size + 1) (some ⟨w.heap.size, 0, none⟩) 1 [x] := by
  refine ⟨by simp, by simp, fun _ => ⟨_, _, rfl, by omega, fun k y hk => ?_⟩⟩
  match k, hk with
  | 0, hk => simp at hk; subst hk; have := cell_one_new w (.int .i32 (x : Int)) t 0 _ rfl; rwa [Addr.add_lit] at this
theorem OR.empty (w : World) : OL 21 fr (w.alloc (.cells #[] 21)) w.heap.size (some ⟨w.heap.size, 0, none⟩) 0 [] := by
  refine ⟨?_, by simp⟩
  have h := World.ownsRow_lit (e := 21) (size := 1) w #[] 0 (Nat.le_refl _) (by unfold maxLen; omega) (by simp)
  simpa using h

/-- a text's characters, as a range over it takes them -/
def runesG : Nat → List UInt8 → List Nat
  | 0, _ => []
  | n + 1, l => if l = [] then [] else (Lib.decodeL l).1 :: runesG n (l.drop (Lib.decodeL l).2)
theorem runesG_fuel : ∀ (n m : Nat) (l : List UInt8), l.length ≤ n → l.length ≤ m → runesG n l = runesG m l
  | 0, m, l, hn, _ => by
    have : l = [] := List.eq_nil_of_length_eq_zero (by omega)
    subst this
    cases m with
    | zero => rfl
    | succ m => simp [runesG]
  | n + 1, 0, l, _, hm => by
    have : l = [] := List.eq_nil_of_length_eq_zero (by omega)
    subst this
    simp [runesG]
  | n + 1, m + 1, l, hn, hm => by
    unfold runesG
    by_cases hne : l = []
    · rw [if_pos hne, if_pos hne]
    · have hw := Lib.decodeL_width l
      have hl : 0 < l.length := List.length_pos_iff.2 hne
      rw [if_neg hne, if_neg hne, runesG_fuel n m (l.drop (Lib.decodeL l).2) (by rw [List.length_drop]; omega) (by rw [List.length_drop]; omega)]
def runesD (l : List UInt8) : List Nat := runesG l.length l
theorem runesD_nil : runesD [] = [] := rfl
theorem runesD_step (l : List UInt8) (hne : l ≠ []) : runesD l = (Lib.decodeL l).1 :: runesD (l.drop (Lib.decodeL l).2) := by
  have hl : 0 < l.length := List.length_pos_iff.2 hne
  have hw := Lib.decodeL_width l
  obtain ⟨n, hn⟩ : ∃ n, l.length = n + 1 := ⟨l.length - 1, by omega⟩
  unfold runesD
  rw [hn]
  show (if l = [] then [] else _) = _
  rw [if_neg hne, runesG_fuel n (l.drop (Lib.decodeL l).2).length _ (by rw [List.length_drop]; omega) (Nat.le_refl _)]
/-- the iterator's block moved on -/
def nextW (w : World) (b : Nat) (s : ByteArray) (p : Nat) : World := { w with heap := w.heap.setIfInBounds b (.stringIter s p) }
theorem run_next_at {P : Program} (w : World) (b : Nat) (s : ByteArray) (pos : Nat) (ty : TypeId) (hb : w.heap[b]? = some (.stringIter s pos)) (h : pos < s.size) :
    (Instr.next (.pointer (some ⟨b, 0, none⟩)) true ty).run P w = .ok (.tuple #[.bool true, .int .i64 pos, .int .i32 (Utf8.decode s pos).1]) (nextW w b s (pos + (Utf8.decode s pos).2)) := by
  simp only [Instr.next, getObj, setObj, Sem.run_bind, Sem.run, hb, Result.andThen, h, if_true]
  simp [goInt, nextW]
theorem run_next_stop {P : Program} (w : World) (b : Nat) (s : ByteArray) (pos : Nat) (ty : TypeId) (hb : w.heap[b]? = some (.stringIter s pos)) (h : ¬ pos < s.size) :
    (Instr.next (.pointer (some ⟨b, 0, none⟩)) true ty).run P w = .ok (.tuple #[.bool false]) w := by
  simp [Instr.next, getObj, Sem.run, hb, h]
theorem nextW_grown (w : World) (b : Nat) (s : ByteArray) (p : Nat) : w.grownBy (nextW w b s p) (some b) :=
  ⟨rfl, rfl, rfl, by simp [nextW], fun i hi hne => by
    unfold nextW
    simp only
    rw [Array.getElem?_setIfInBounds_ne (fun e => hne (by rw [e]))]⟩
theorem nextW_at (w : World) (b : Nat) (s : ByteArray) (p : Nat) (h : b < w.heap.size) : (nextW w b s p).heap[b]? = some (.stringIter s p) := by
  unfold nextW
  simp only
  rw [Array.getElem?_setIfInBounds_self_of_lt h]

set_option maxRecDepth 100000 in
set_option maxHeartbeats 8000000 in
theorem runes_any (s : ByteArray) (w : World) (hs : s.size ≤ 1048576) :
    Calls Tryz.prog 93 #[.string s] w fun e w' => ∃ A c, e = .returned (.slice A (runesD s.data.toList).length c) ∧ OL 21 fr w' w.heap.size A c (runesD s.data.toList) ∧ Below w.heap.size w w' := by
  obtain ⟨R, hR⟩ : ∃ R, Hid (runesD s.data.toList = R) := ⟨_, rfl⟩
  rw [hR.out]
  have O0 := OR.empty w
  have B0 := bal w (.cells #[] 21)
  have hb0 : (w.alloc (.cells #[] 21)).heap.size = w.heap.size + 1 := by simp
  have hit := World.iter_heap (w.alloc (.cells #[] 21)) s 0
  have BI : Below w.heap.size w ((w.alloc (.cells #[] 21)).iter s 0) := bt B0 (bal _ _)
  have OI : OL 21 fr ((w.alloc (.cells #[] 21)).iter s 0) w.heap.size (some ⟨w.heap.size, 0, none⟩) 0 [] := O0.alloc _
  rw [hb0] at hit
  go_enter Tryz.func93, Tryz.ntmps93
  go_upto_region 3 with fail
  obtain ⟨W0, hW0⟩ : ∃ W0, W0 = (w.alloc (.cells #[] 21)).iter s 0 := ⟨_, rfl⟩
  rw [← hW0] at hit BI OI ⊢
  clear hW0 O0 B0 hb0
  have hslen : s.size = s.data.toList.length := by rw [Array.length_toList]; rfl
  generalize hn : w.heap.size = n at *
  go_loopg [3] s.size (fun gk s3 wx => ∃ (A : Option Addr) (c : Nat) (l : List Nat) (p : Nat), s3 = .slice A l.length c ∧ s.size - p = gk ∧ p ≤ s.size ∧ l.length ≤ p ∧ wx.heap[n + 1]? = some (.stringIter s p) ∧ OL 21 fr wx n A c l ∧ (∀ g, A = some ⟨g, 0, none⟩ → g ≠ n + 1) ∧ Hid (l ++ runesD (s.data.toList.drop p) = R) ∧ Below n w wx)
  case atStart => exact ⟨_, _, [], 0, rfl, rfl, Nat.zero_le _, Nat.zero_le _, hit, OI, fun g hg => by cases hg; omega, hR, BI⟩
  case round =>
    obtain ⟨A, c, l, p, rfl, hgk, hpl, hlp, hit, O1, hA, hI, B1⟩ := hrel
    clear OI BI hR
    have hnb : n + 1 < wr.heap.size := (Array.getElem?_eq_some_iff.1 hit).1
    by_cases hp : p < s.size
    · have hnx := fun ty => run_next_at (P := Tryz.prog) wr (n + 1) s p ty hit hp
      have hdec : Utf8.decode s p = Lib.decodeL (s.data.toList.drop p) := (Lib.decodeL_drop s p).symm
      have hne : s.data.toList.drop p ≠ [] := by
        intro h
        have := congrArg List.length h
        rw [List.length_drop] at this
        simp at this
        omega
      have hst := runesD_step _ hne
      have hle := Lib.decodeL_le _ hne
      have hw1 := Lib.decodeL_width (s.data.toList.drop p)
      rw [List.length_drop, ← hslen] at hle
      rw [List.drop_drop] at hst
      rw [hdec] at hnx
      generalize Lib.decodeL (s.data.toList.drop p) = dc at *
      obtain ⟨r, k⟩ := dc
      simp only at hnx hst hle hw1
      have GN := nextW_grown wr (n + 1) s (p + k)
      have hit2 := nextW_at wr (n + 1) s (p + k) hnb
      have O2 := O1.grown GN (fun g hg => by have := hA g hg; simp; omega)
      have B2 : Below n w (nextW wr (n + 1) s (p + k)) := B1.grown GN (by have := B1.size; omega) (fun q hq => by cases hq; omega)
      obtain ⟨w2, hw2⟩ : ∃ w2, w2 = nextW wr (n + 1) s (p + k) := ⟨_, rfl⟩
      rw [← hw2] at hnx GN hit2 O2 B2
      have hsz2 : w2.heap.size = wr.heap.size := by rw [hw2]; simp [nextW]
      clear hw2 hdec hne hit O1 B1 GN
      have hone := RR.one w2 21 r
      have hsw : n + 1 < w2.heap.size := by omega
      replace hsz2 := Lib.hid hsz2
      have B3 : Below n w (w2.alloc (.cells #[.int .i32 (r : Int)] 21)) := B2.alloc (by omega) _
      have hit3 : (w2.alloc (.cells #[.int .i32 (r : Int)] 21)).heap[n + 1]? = some (.stringIter s (p + k)) := by
        rw [heap_alloc_old w2 _ hsw]; exact hit2
      have hlr : l.length + [r].length ≤ 35184372088832 := by simp; omega
      have hIr : Hid ((l ++ [r]) ++ runesD (s.data.toList.drop (p + k)) = R) := Lib.hid (by rw [← hI.out, hst]; simp)
      have hown : ∀ q, (Value.slice A l.length c).ownBlock = some q → n ≤ q ∧ q ≠ n + 1 := by
        intro q hq
        rcases O2.form with ⟨rfl, _⟩ | ⟨g, rfl, hb, _⟩
        · simp [Value.ownBlock] at hq
        · simp [Value.ownBlock] at hq; subst hq; exact ⟨hb, hA _ rfl⟩
      clear hst hI hit2
      go_wp2_with (at_builtin; refine wp_appRn _ rfl _ _ rfl n _ _ _ l rfl rfl (O2.alloc _) _ _ _ [r] rfl rfl _ hone hlr (by simp; omega) ?_; intro A4 c4 w4 O4 G4 F4)
      have hit4 : w4.heap[n + 1]? = some (.stringIter s (p + k)) := by
        rw [G4.block (n + 1) (by simp; omega) (fun e => (hown _ e.symm).2 rfl)]
        exact hit3
      have B4 := B3.grown G4 (by simp; omega) (fun q hq => (hown q hq).1)
      go_roundg (s.size - (p + k))
      case measure => omega
      case rel => exact ⟨A4, c4, l ++ [r], p + k, by simp, rfl, by omega, by simp; omega, hit4, O4, fun g hg => by
        by_cases hlt : g < (w2.alloc (.cells #[.int .i32 (r : Int)] 21)).heap.size
        · exact hA g (F4 g hg hlt)
        · simp at hlt; omega, hIr, B4⟩
    · have hnx := fun ty => run_next_stop (P := Tryz.prog) wr (n + 1) s p ty hit hp
      obtain rfl : p = s.size := by omega
      have hlR : l = R := by
        have := hI.out
        rw [List.drop_eq_nil_of_le (by omega), runesD_nil, List.append_nil] at this
        exact this
      subst hlR
      clear hI hgk
      generalize hll : l.length = ll at *
      replace hll := Lib.hid hll
      go_wp2_with fail
      go_ret
      exact ⟨A, c, by rw [hll.out]; rfl, by rw [hn]; exact O1, by rw [hn]; exact B1⟩

set_option maxRecDepth 100000 in
set_option maxHeartbeats 4000000 in
theorem raw_any (A : Option Addr) (c : Nat) (l : List UInt8) (w : World) (hR : RB w w.heap.size A c l) :
    Calls Tryz.prog 94 #[.slice A l.length c] w fun e w' => ∃ A' c', e = .returned (.slice A' (l.map (·.toNat)).length c') ∧ OL 21 fr w' w.heap.size A' c' (l.map (·.toNat)) ∧ Below w.heap.size w w' := by
  have O0 := OR.empty w
  have B0 := bal w (.cells #[] 21)
  have hbig := RL.big hR
  go_enter Tryz.func94, Tryz.ntmps94
  go_upto_region 3 with fail
  go_loopg [3, 4] l.length (fun gk s3 s4 wx => ∃ (A' : Option Addr) (c' i : Nat), s3 = .slice A' i c' ∧ s4 = .int .i64 (i : Int) ∧ i ≤ l.length ∧ l.length - i = gk ∧ OL 21 fr wx w.heap.size A' c' ((l.take i).map (·.toNat)) ∧ Below w.heap.size w wx)
  case atStart => exact ⟨_, _, 0, rfl, rfl, Nat.zero_le _, rfl, by simpa using O0, B0⟩
  case round =>
    obtain ⟨A', c', i, rfl, rfl, hil, hgk, O1, B1⟩ := hrel
    clear O0 B0
    by_cases hi : i < l.length
    · obtain ⟨b, off, hA, hb, hc⟩ := RL.at_ (RL.step hR B1 (Nat.le_refl _)) (by omega)
      subst hA
      have kc := hc i _ (List.getElem?_eq_getElem hi)
      have htk : Hid ((l.take (i + 1)).map (·.toNat) = (l.take i).map (·.toNat) ++ [l[i].toNat]) := Lib.hid (by
        rw [List.take_succ_eq_append_getElem hi, List.map_append]; rfl)
      have hx8 := l[i].toNat_lt
      simp only [f8] at kc
      generalize l[i].toNat = x at *
      have hwx : IntKind.i32.wrap (x : Int) = (x : Int) := IntWalk.i32_in _ (by omega)
      have hwi : IntKind.i64.wrap ((i : Int) + 1) = (i : Int) + 1 := IntWalk.i64_in _ (by omega)
      have hli : Hid (i = ((l.take i).map (·.toNat)).length) := Lib.hid (by simp; omega)
      have hone := RR.one wr 21 x
      have B3 : Below w.heap.size w (wr.alloc (.cells #[.int .i32 (x : Int)] 21)) := B1.alloc B1.size _
      have hidx : (i : Int) < (l.length : Int) := by omega
      have hlr : ((l.take i).map (·.toNat)).length + [x].length ≤ 35184372088832 := by simp; omega
      have hown : ∀ q, (Value.slice A' i c').ownBlock = some q → w.heap.size ≤ q := fun q hq => by
        rcases O1.form with ⟨rfl, _⟩ | ⟨g, rfl, hb, _⟩
        · simp [Value.ownBlock] at hq
        · simp [Value.ownBlock] at hq; omega
      clear hc
      go_wp2_with (at_builtin; refine wp_appRn _ rfl _ _ rfl w.heap.size _ _ _ ((l.take i).map (·.toNat)) rfl hli.out (O1.alloc _) _ _ _ [x] rfl rfl _ hone hlr B3.size ?_; intro A4 c4 w4 O4 G4 F4)
      rw [← htk.out] at O4
      have B4 := B3.grown G4 B3.size hown
      have hl4 : (((l.take i).map (·.toNat)) ++ [x]).length = i + 1 := by rw [List.length_append, ← hli.out]; rfl
      clear htk hli hone
      go_wp2_with fail
      go_roundg (l.length - (i + 1))
      case measure => omega
      case rel => exact ⟨A4, c4, i + 1, rfl, by go_num, by omega, rfl, O4, B4⟩
    · obtain rfl : i = l.length := by omega
      rw [List.take_length] at O1
      clear hgk
      generalize hll : l.length = ll at *
      replace hll := Lib.hid hll
      go_wp2_with fail
      go_ret
      exact ⟨A', c', by rw [List.length_map, hll.out]; rfl, O1, B1⟩
end Go.Proofs.YtilhnjecnhpmlaaGreatDoor
namespace Go.Proofs.YtilhnjecnhpmlaaGreatDoor
open Go.RowKit

/-- a character's bytes as numbers -/
def eN (r : Nat) : List Nat := if r < 128 then [r] else if r < 2048 then [192 + r / 64, 128 + r % 64] else if r < 65536 then [224 + r / 4096, 128 + r / 64 % 64, 128 + r % 64] else [240 + r / 262144, 128 + r / 4096 % 64, 128 + r / 64 % 64, 128 + r % 64]
theorem cmpL_cons (x y : Nat) (s t : List Nat) : cmpL (x :: s) (y :: t) = if x < y then -1 else if y < x then 1 else cmpL s t := rfl
theorem enc_cmp (r1 r2 : Nat) (h1 : r1 ≤ 1114111) (h2 : r2 ≤ 1114111) (s t : List Nat) : cmpL (eN r1 ++ s) (eN r2 ++ t) = if r1 < r2 then -1 else if r2 < r1 then 1 else cmpL s t := by
  by_cases e : r1 = r2
  · subst e
    rw [if_neg (by omega), if_neg (by omega)]
    unfold eN
    repeat' split
    all_goals simp [cmpL_cons]
  · unfold eN
    by_cases a1 : r1 < 128 <;> by_cases a2 : r1 < 2048 <;> by_cases a3 : r1 < 65536 <;> by_cases b1 : r2 < 128 <;> by_cases b2 : r2 < 2048 <;> by_cases b3 : r2 < 65536 <;> first | (exfalso; omega) | skip
    all_goals simp only [a1, a2, a3, b1, b2, b3, if_true, if_false, List.cons_append, List.nil_append, cmpL_cons]
    all_goals (repeat' split) <;> omega
theorem eN_enc (r : Nat) (h : r ≤ 1114111) (hs : ¬ (55296 ≤ r ∧ r ≤ 57343)) : (Lib.encodeRune (r : Int)).map (·.toNat) = eN r := by
  unfold Lib.encodeRune Lib.encodeRuneZ eN
  by_cases a1 : r < 128
  · rw [if_pos (show (0 : Int) ≤ r ∧ (r : Int) ≤ 127 by omega), if_pos a1]
    simp [Nat.toUInt8]
    omega
  · rw [if_neg (show ¬ ((0 : Int) ≤ r ∧ (r : Int) ≤ 127) by omega), if_neg a1]
    by_cases a2 : r < 2048
    · rw [if_pos (show (128 : Int) ≤ r ∧ (r : Int) ≤ 2047 by omega), if_pos a2]
      simp [Nat.toUInt8]
      omega
    · rw [if_neg (show ¬ ((128 : Int) ≤ r ∧ (r : Int) ≤ 2047) by omega), if_neg a2]
      by_cases a3 : r < 65536
      · rw [if_pos (show ((2048 : Int) ≤ r ∧ (r : Int) < 55296) ∨ ((57343 : Int) < r ∧ (r : Int) ≤ 65535) by omega), if_pos a3]
        simp [Nat.toUInt8]
        omega
      · rw [if_neg (show ¬ (((2048 : Int) ≤ r ∧ (r : Int) < 55296) ∨ ((57343 : Int) < r ∧ (r : Int) ≤ 65535)) by omega), if_neg a3, if_pos (show (65536 : Int) ≤ r ∧ (r : Int) ≤ 1114111 by omega)]
        simp [Nat.toUInt8]
        omega
theorem dec_valid (l : List UInt8) : ¬ (55296 ≤ (Lib.decodeL l).1 ∧ (Lib.decodeL l).1 ≤ 57343) := by
  rw [Lib.decodeL_N]
  unfold Lib.decodeN
  have h0 := (l.getD 0 0).toNat_lt
  repeat' split
  all_goals simp only
  all_goals omega
theorem runes_order : ∀ (n : Nat) (a b : List UInt8), a.length ≤ n → Lib.validD a = true → Lib.validD b = true → cmpL (a.map (·.toNat)) (b.map (·.toNat)) = cmpL (runesD a) (runesD b)
  | n, [], [], _, _, _ => rfl
  | n, [], y :: b, _, _, _ => by
    rw [runesD_step (y :: b) (by simp)]
    rfl
  | n, x :: a, [], _, _, _ => by
    rw [runesD_step (x :: a) (by simp)]
    rfl
  | 0, x :: a, y :: b, h, _, _ => by simp at h
  | n + 1, x :: a, y :: b, h, ha, hb => by
    have na : x :: a ≠ [] := by simp
    have nb : y :: b ≠ [] := by simp
    rw [Lib.validD_step _ na] at ha
    rw [Lib.validD_step _ nb] at hb
    by_cases ca : (Lib.decodeL (x :: a)).1 = 65533 ∧ (Lib.decodeL (x :: a)).2 = 1
    · rw [if_pos ca] at ha; cases ha
    by_cases cb : (Lib.decodeL (y :: b)).1 = 65533 ∧ (Lib.decodeL (y :: b)).2 = 1
    · rw [if_pos cb] at hb; cases hb
    rw [if_neg ca] at ha
    rw [if_neg cb] at hb
    have ea := eN_enc _ (Lib.decodeL_rune (x :: a)) (dec_valid _)
    have eb := eN_enc _ (Lib.decodeL_rune (y :: b)) (dec_valid _)
    rw [Lib.encode_decode _ na ca] at ea
    rw [Lib.encode_decode _ nb cb] at eb
    have sa : (x :: a).map (·.toNat) = eN (Lib.decodeL (x :: a)).1 ++ ((x :: a).drop (Lib.decodeL (x :: a)).2).map (·.toNat) := by
      rw [← ea, ← List.map_append, List.take_append_drop]
    have sb : (y :: b).map (·.toNat) = eN (Lib.decodeL (y :: b)).1 ++ ((y :: b).drop (Lib.decodeL (y :: b)).2).map (·.toNat) := by
      rw [← eb, ← List.map_append, List.take_append_drop]
    rw [sa, sb, enc_cmp _ _ (Lib.decodeL_rune _) (Lib.decodeL_rune _), runesD_step _ na, runesD_step _ nb, cmpL_cons]
    have hw := Lib.decodeL_width (x :: a)
    rw [runes_order n _ _ (by rw [List.length_drop]; simp at h ⊢; omega) ha hb]
/-- texts: by bytes as by characters -/
theorem text_order {a b : ByteArray} (ha : vU a = true) (hb : vU b = true) : cmpL (runesD a.data.toList) (runesD b.data.toList) = cmpL (bytesN a) (bytesN b) := (runes_order _ _ _ (Nat.le_refl _) ha hb).symm
end Go.Proofs.YtilhnjecnhpmlaaGreatDoor
namespace Go.Proofs.YtilhnjecnhpmlaaGreatDoor
open Go.RowKit

theorem cmpL_ne {x y : Nat} (s t : List Nat) (h : x ≠ y) : cmpL (x :: s) (y :: t) = cmpZ (x : Int) (y : Int) := by
  rw [cmpL_cons]
  unfold cmpZ
  by_cases h1 : x < y
  · rw [if_pos h1, if_pos (by omega)]
  · have z1 : ¬ (x : Int) < (y : Int) := by omega
    have h2 : y < x := by omega
    have z2 : (y : Int) < (x : Int) := by omega
    simp only [h1, z1, h2, z2, if_false, if_true]
theorem cmpL_eq (x : Nat) (s t : List Nat) : cmpL (x :: s) (x :: t) = cmpL s t := by rw [cmpL_cons, if_neg (by omega), if_neg (by omega)]
theorem cmpL_end {la lb : List Nat} {i : Nat} (h1 : i ≤ la.length) (h2 : i ≤ lb.length) (h : i = la.length ∨ i = lb.length) : cmpL (la.drop i) (lb.drop i) = cmpZ (la.length : Int) (lb.length : Int) := by
  rcases h with h | h
  · subst h
    rw [List.drop_length]
    by_cases e : la.length = lb.length
    · rw [e, List.drop_length]; unfold cmpZ; rw [if_neg (by omega), if_neg (by omega)]; rfl
    · obtain ⟨y, ys, hy⟩ : ∃ y ys, lb.drop la.length = y :: ys := by
        rw [List.drop_eq_getElem_cons (by omega)]; exact ⟨_, _, rfl⟩
      rw [hy]; unfold cmpZ; rw [if_pos (by omega)]; rfl
  · subst h
    rw [List.drop_length]
    by_cases e : la.length = lb.length
    · rw [← e, List.drop_length]; unfold cmpZ; rw [if_neg (by omega), if_neg (by omega)]; rfl
    · obtain ⟨y, ys, hy⟩ : ∃ y ys, la.drop lb.length = y :: ys := by
        rw [List.drop_eq_getElem_cons (by omega)]; exact ⟨_, _, rfl⟩
      rw [hy]; unfold cmpZ; rw [if_neg (by omega), if_pos (by omega)]; rfl
theorem runesG_le : ∀ (n : Nat) (l : List UInt8), ∀ x ∈ runesG n l, x < 2147483648
  | 0, l, x, h => by cases h
  | n + 1, l, x, h => by
    unfold runesG at h
    split at h
    · cases h
    · rcases List.mem_cons.1 h with rfl | h
      · have := Lib.decodeL_rune l; omega
      · exact runesG_le n _ x h
theorem runesD_le (l : List UInt8) : ∀ x ∈ runesD l, x < 2147483648 := runesG_le _ l
set_option maxRecDepth 100000 in
set_option maxHeartbeats 8000000 in
theorem row_any (A : Option Addr) (c : Nat) (D : Option Addr) (d : Nat) (la lb : List Nat) (w : World) (hA : RL fr w w.heap.size A c la) (hD : RL fr w w.heap.size D d lb) (xA : ∀ x ∈ la, x < 2147483648) (xD : ∀ x ∈ lb, x < 2147483648) :
    Calls Tryz.prog 92 #[.slice A la.length c, .slice D lb.length d] w fun e w' => e = .returned (.int .i64 (cmpL la lb)) ∧ Below w.heap.size w w' := by
  obtain ⟨T, hT⟩ : ∃ T, Hid (cmpL (la.drop 0) (lb.drop 0) = T) := ⟨_, rfl⟩
  have hT0 : cmpL la lb = T := hT.out
  rw [hT0]
  clear hT0
  have bA := RL.big hA
  have bD := RL.big hD
  go_enter Tryz.func92, Tryz.ntmps92
  go_upto_region 2 with fail
  go_loopg [5] la.length (fun gk s5 wx => ∃ i : Nat, s5 = .int .i64 (i : Int) ∧ i ≤ la.length ∧ i ≤ lb.length ∧ la.length - i = gk ∧ Hid (cmpL (la.drop i) (lb.drop i) = T) ∧ ∃ q, wx = w.drewN q)
  case atStart => exact ⟨0, rfl, Nat.zero_le _, Nat.zero_le _, rfl, hT, 0, rfl⟩
  case round =>
    obtain ⟨i, rfl, h1, h2, hgk, hI, q, rfl⟩ := hrel
    clear hT
    by_cases ha : i < la.length
    rotate_left
    · have hf : Hid (cmpZ (la.length : Int) (lb.length : Int) = T) := Lib.hid (by rw [← hI.out, cmpL_end h1 h2 (.inl (by omega))])
      have haz : ¬ (i : Int) < (la.length : Int) := by omega
      have hcall := fun w' => ints_any (la.length : Int) (lb.length : Int) w'
      rw [hf.out] at hcall
      clear hI hf hgk
      generalize la.length = ll at *
      generalize lb.length = mm at *
      go_wp2_with fail
      refine (hcall _).mono ?_; rintro e w6 ⟨rfl, rfl⟩
      go_wp2_with fail
      go_ret
      exact ⟨rfl, bdN (Below.refl _ _) q⟩
    have haz : (i : Int) < (la.length : Int) := by omega
    by_cases hb : i < lb.length
    rotate_left
    · have hf : Hid (cmpZ (la.length : Int) (lb.length : Int) = T) := Lib.hid (by rw [← hI.out, cmpL_end h1 h2 (.inr (by omega))])
      have hbz : ¬ (i : Int) < (lb.length : Int) := by omega
      have hcall := fun w' => ints_any (la.length : Int) (lb.length : Int) w'
      rw [hf.out] at hcall
      clear hI hf hgk
      generalize la.length = ll at *
      generalize lb.length = mm at *
      go_wp2_with fail
      refine (hcall _).mono ?_; rintro e w6 ⟨rfl, rfl⟩
      go_wp2_with fail
      go_ret
      exact ⟨rfl, bdN (Below.refl _ _) q⟩
    have hbz : (i : Int) < (lb.length : Int) := by omega
    obtain ⟨b1, o1, e1, _, c1⟩ := RL.at_ hA (by omega)
    obtain ⟨b2, o2, e2, _, c2⟩ := RL.at_ hD (by omega)
    have hk1 := c1 i _ (List.getElem?_eq_getElem ha)
    have hk2 := c2 i _ (List.getElem?_eq_getElem hb)
    have hx31 := xA _ (List.getElem_mem ha)
    have hy31 := xD _ (List.getElem_mem hb)
    have hI2 := hI.out
    rw [List.drop_eq_getElem_cons ha, List.drop_eq_getElem_cons hb] at hI2
    simp only [fr] at hk1 hk2
    generalize la[i] = x at *
    generalize lb[i] = y at *
    have k1 : ∀ r, (w.drewN r).cell? ⟨b1, o1 + i, none⟩ = some (.int .i32 (x : Int)) := fun r => hk1
    have k2 : ∀ r, (w.drewN r).cell? ⟨b2, o2 + i, none⟩ = some (.int .i32 (y : Int)) := fun r => hk2
    clear c1 c2 hI
    subst e1 e2
    go_upto_region 4 with fail
    refine AnyV.regionQ 9 9 (fun w' => w'.cell? ⟨b1, o1 + i, none⟩ = some (.int .i32 (x : Int)) ∧ w'.cell? ⟨b2, o2 + i, none⟩ = some (.int .i32 (y : Int))) rfl (by kernel_rfl) (by kernel_rfl) (by repeat (first | refine quiet_then ?_ | refine quiet_block ?_ | exact quiet_body)) ⟨hk1, hk2⟩ (fun Q hQK hq hns hHeld => ?_)
    refine AnyV.next (i := 0) (v := ?_) hq hns hHeld rfl rfl (by kernel_rfl) (Or.inl ⟨by rfl, ?_⟩) ?_
    rotate_left
    · intro w' hSw; (try dsimp only at hSw); go_simp <;> with_reducible rfl
    try simp only [List.setIfInBounds_toArray, List.set_cons_zero, List.set_cons_succ]
    refine AnyV.next (i := 1) (v := ?_) hq hns hHeld rfl rfl (by kernel_rfl) (Or.inl ⟨by rfl, ?_⟩) ?_
    rotate_left
    · intro w' hSw; (try dsimp only at hSw); go_simp <;> with_reducible rfl
    try simp only [List.setIfInBounds_toArray, List.set_cons_zero, List.set_cons_succ]
    refine AnyV.next (i := 2) (v := ?_) hq hns hHeld rfl rfl (by kernel_rfl) (Or.inl ⟨by rfl, ?_⟩) ?_
    rotate_left
    · intro w' hSw; (try dsimp only at hSw); go_simp <;> with_reducible rfl
    try simp only [List.setIfInBounds_toArray, List.set_cons_zero, List.set_cons_succ]
    refine AnyV.next (i := 3) (v := ?_) hq hns hHeld rfl rfl (by kernel_rfl) (Or.inl ⟨by rfl, ?_⟩) ?_
    rotate_left
    · intro w' hSw; (try dsimp only at hSw); go_simp <;> with_reducible rfl
    try simp only [List.setIfInBounds_toArray, List.set_cons_zero, List.set_cons_succ]
    refine AnyV.next (i := 4) (v := ?_) hq hns hHeld rfl rfl (by kernel_rfl) (Or.inl ⟨by rfl, ?_⟩) ?_
    rotate_left
    · intro w' hSw; (try dsimp only at hSw); go_simp <;> with_reducible rfl
    try simp only [List.setIfInBounds_toArray, List.set_cons_zero, List.set_cons_succ]
    refine AnyV.next (i := 5) (v := ?_) hq hns hHeld rfl rfl (by kernel_rfl) (Or.inl ⟨by rfl, ?_⟩) ?_
    rotate_left
    · intro w' hSw; (try dsimp only at hSw); go_simp <;> with_reducible rfl
    try simp only [List.setIfInBounds_toArray, List.set_cons_zero, List.set_cons_succ]
    refine AnyV.next (i := 6) (v := ?_) hq hns hHeld rfl rfl (by kernel_rfl) (Or.inl ⟨by rfl, ?_⟩) ?_
    rotate_left
    · intro w' hSw; (try dsimp only at hSw); go_simp <;> with_reducible rfl
    try simp only [List.setIfInBounds_toArray, List.set_cons_zero, List.set_cons_succ]
    refine AnyV.next (i := 7) (v := ?_) hq hns hHeld rfl rfl (by kernel_rfl) (Or.inl ⟨by rfl, ?_⟩) ?_
    rotate_left
    · intro w' hSw; (try dsimp only at hSw); go_simp <;> with_reducible rfl
    try simp only [List.setIfInBounds_toArray, List.set_cons_zero, List.set_cons_succ]
    refine AnyV.next (i := 8) (v := ?_) hq hns hHeld rfl rfl (by kernel_rfl) (Or.inl ⟨by rfl, ?_⟩) ?_
    rotate_left
    · intro w' hSw; (try dsimp only at hSw); go_simp <;> with_reducible rfl
    try simp only [List.setIfInBounds_toArray, List.set_cons_zero, List.set_cons_succ]
    refine AnyV.done (by kernel_rfl) (hQK.out _ _ ?_)
    clear hQK hq hns hHeld
    rw [show (w.drewN q).drew = w.drewN (q + 1) from rfl]
    by_cases hxy : x = y
    · subst hxy
      have hn : Hid (cmpL (la.drop (i + 1)) (lb.drop (i + 1)) = T) := Lib.hid (by rw [← hI2, cmpL_eq])
      have t1 : ((x : Int) != (x : Int)) = false := by simp
      have hwi : IntKind.i64.wrap ((i : Int) + 1) = (i : Int) + 1 := IntWalk.i64_in _ (by omega)
      clear hI2
      go_wp2_with fail
      go_roundg (la.length - (i + 1))
      case measure => omega
      case rel => exact ⟨i + 1, by go_num, by omega, by omega, rfl, hn, q + 1, rfl⟩
    · have hf : Hid (cmpZ (x : Int) (y : Int) = T) := Lib.hid (by rw [← hI2, cmpL_ne _ _ hxy])
      have t1 : ((x : Int) != (y : Int)) = true := bne_iff_ne.2 (by omega)
      have w1 : IntKind.i64.wrap (x : Int) = (x : Int) := IntWalk.i64_in _ (by omega)
      have w2 : IntKind.i64.wrap (y : Int) = (y : Int) := IntWalk.i64_in _ (by omega)
      have hcall := fun w' => ints_any (x : Int) (y : Int) w'
      rw [hf.out] at hcall
      clear hI2 hf hxy
      go_upto_region 5 with fail
      refine AnyV.regionQ 12 12 (fun w' => w'.cell? ⟨b1, o1 + i, none⟩ = some (.int .i32 (x : Int)) ∧ w'.cell? ⟨b2, o2 + i, none⟩ = some (.int .i32 (y : Int))) rfl (by kernel_rfl) (by kernel_rfl) (by repeat (first | refine quiet_then ?_ | refine quiet_block ?_ | exact quiet_body)) ⟨hk1, hk2⟩ (fun Q hQK hq hns hHeld => ?_)
      refine AnyV.next (i := 0) (v := ?_) hq hns hHeld rfl rfl (by kernel_rfl) (Or.inl ⟨by rfl, ?_⟩) ?_
      rotate_left
      · intro w' hSw; (try dsimp only at hSw); go_simp <;> with_reducible rfl
      try simp only [List.setIfInBounds_toArray, List.set_cons_zero, List.set_cons_succ]
      refine AnyV.next (i := 1) (v := ?_) hq hns hHeld rfl rfl (by kernel_rfl) (Or.inl ⟨by rfl, ?_⟩) ?_
      rotate_left
      · intro w' hSw; (try dsimp only at hSw); go_simp <;> with_reducible rfl
      try simp only [List.setIfInBounds_toArray, List.set_cons_zero, List.set_cons_succ]
      refine AnyV.next (i := 2) (v := ?_) hq hns hHeld rfl rfl (by kernel_rfl) (Or.inl ⟨by rfl, ?_⟩) ?_
      rotate_left
      · intro w' hSw; (try dsimp only at hSw); go_simp <;> with_reducible rfl
      try simp only [List.setIfInBounds_toArray, List.set_cons_zero, List.set_cons_succ]
      refine AnyV.next (i := 3) (v := ?_) hq hns hHeld rfl rfl (by kernel_rfl) (Or.inl ⟨by rfl, ?_⟩) ?_
      rotate_left
      · intro w' hSw; (try dsimp only at hSw); go_simp <;> with_reducible rfl
      try simp only [List.setIfInBounds_toArray, List.set_cons_zero, List.set_cons_succ]
      refine AnyV.next (i := 4) (v := ?_) hq hns hHeld rfl rfl (by kernel_rfl) (Or.inl ⟨by rfl, ?_⟩) ?_
      rotate_left
      · intro w' hSw; (try dsimp only at hSw); go_simp <;> with_reducible rfl
      try simp only [List.setIfInBounds_toArray, List.set_cons_zero, List.set_cons_succ]
      refine AnyV.next (i := 5) (v := ?_) hq hns hHeld rfl rfl (by kernel_rfl) (Or.inl ⟨by rfl, ?_⟩) ?_
      rotate_left
      · intro w' hSw; (try dsimp only at hSw); go_simp <;> with_reducible rfl
      try simp only [List.setIfInBounds_toArray, List.set_cons_zero, List.set_cons_succ]
      refine AnyV.next (i := 6) (v := ?_) hq hns hHeld rfl rfl (by kernel_rfl) (Or.inl ⟨by rfl, ?_⟩) ?_
      rotate_left
      · intro w' hSw; (try dsimp only at hSw); go_simp <;> with_reducible rfl
      try simp only [List.setIfInBounds_toArray, List.set_cons_zero, List.set_cons_succ]
      refine AnyV.next (i := 7) (v := ?_) hq hns hHeld rfl rfl (by kernel_rfl) (Or.inl ⟨by rfl, ?_⟩) ?_
      rotate_left
      · intro w' hSw; (try dsimp only at hSw); go_simp <;> with_reducible rfl
      try simp only [List.setIfInBounds_toArray, List.set_cons_zero, List.set_cons_succ]
      refine AnyV.next (i := 8) (v := ?_) hq hns hHeld rfl rfl (by kernel_rfl) (Or.inl ⟨by rfl, ?_⟩) ?_
      rotate_left
      · intro w' hSw; (try dsimp only at hSw); go_simp <;> with_reducible rfl
      try simp only [List.setIfInBounds_toArray, List.set_cons_zero, List.set_cons_succ]
      refine AnyV.next (i := 9) (v := ?_) hq hns hHeld rfl rfl (by kernel_rfl) (Or.inl ⟨by rfl, ?_⟩) ?_
      rotate_left
      · intro w' hSw; (try dsimp only at hSw); go_simp <;> with_reducible rfl
      try simp only [List.setIfInBounds_toArray, List.set_cons_zero, List.set_cons_succ]
      refine AnyV.one 10 (by kernel_rfl) rfl (fun K hK => ?_)
      go_simp
      refine (hcall _).mono ?_; rintro e w7 ⟨rfl, rfl⟩
      go_wp2_with fail
      refine hK.out _ _ (.inr ⟨hk1, hk2⟩) (fun hHeld => ?_)
      clear hK K
      try simp only [List.setIfInBounds_toArray, List.set_cons_zero, List.set_cons_succ]
      refine AnyV.one 11 (by kernel_rfl) rfl (fun K hK => ?_)
      go_simp
      refine hK.out _ _ (.inr ⟨hk1, hk2⟩) (fun _ => ?_)
      clear hK K
      try simp only [List.setIfInBounds_toArray, List.set_cons_zero, List.set_cons_succ]
      refine AnyV.done (by kernel_rfl) (hQK.out _ _ ?_)
      clear hQK hq hns hHeld
      go_wp2_with fail
      go_ret
      exact ⟨rfl, bdN (Below.refl _ _) (q + 2)⟩
end Go.Proofs.YtilhnjecnhpmlaaGreatDoor
namespace Go.Proofs.YtilhnjecnhpmlaaGreatDoor
open Go.RowKit

theorem RD.words {w : World} {B : Nat} {a : Dat} {x0 x1 x2 x5 x8 x9 x10 : Value} {A1 D1 A2 D2 : Option Addr} {n1 m1 n2 m2 c1 d1 c2 d2 : Nat} (h : RD w B a (.agg #[x0, x1, x2, .slice A1 n1 c1, .slice D1 m1 d1, x5, .slice A2 n2 c2, .slice D2 m2 d2, x8, x9, x10])) : RW w B A1 c1 a.re.a ∧ RW w B D1 d1 a.re.b ∧ RW w B A2 c2 a.im.a ∧ RW w B D2 d2 a.im.b := by
  obtain ⟨_, _, _, _, _, _, _, _, _, _, _, _, hv, ⟨h1, h2, h3, h4, -⟩, -⟩ := h.view
  have := congrArg Array.toList (Value.agg.inj hv)
  simp only [List.cons.injEq, Value.slice.injEq] at this
  rw [this.2.2.2.1.1, this.2.2.2.1.2.2, this.2.2.2.2.1.1, this.2.2.2.2.1.2.2, this.2.2.2.2.2.2.1.1, this.2.2.2.2.2.2.1.2.2, this.2.2.2.2.2.2.2.1.1, this.2.2.2.2.2.2.2.1.2.2]
  exact ⟨h1, h2, h3, h4⟩
theorem shape_valid {v : ByteArray → Bool} {d : Dat} (h : d.shape v = true) : v d.t = true := by
  unfold Dat.shape at h
  simp only [Bool.and_eq_true] at h
  exact h.2.2.1
theorem ord_raw' {nm : Rw → Rw → Rw → Rw → Int} {a b : Dat} (h : a.k = b.k) (h7 : a.k = 7) : a.ord nm b = cmpL (a.raw.map (·.toNat)) (b.raw.map (·.toNat)) := by
  rw [ord_at h, if_neg (by omega), if_neg (textK_no (by omega)), if_pos h7]
theorem ord_list {nm : Rw → Rw → Rw → Rw → Int} {a b : Dat} (h : a.k = b.k) (h9 : a.k = 8 ∨ a.k = 9) : a.ord nm b = if cmpZ a.l.length b.l.length ≠ 0 then cmpZ a.l.length b.l.length else ordL nm a.l b.l := by
  rw [ord_at h, if_neg (by omega), if_neg (textK_no (by omega)), if_neg (by omega), if_pos h9]
theorem raw_le (l : List UInt8) : ∀ x ∈ l.map (·.toNat), x < 2147483648 := by
  intro x hx
  obtain ⟨y, _, rfl⟩ := List.mem_map.1 hx
  have := y.toNat_lt
  omega
/-- the order of fractions that are sound -/
theorem rOrd_any {V U : Value} {r r' : Rw} {w : World} (hV : VR w w.heap.size V r.s r.a r.b) (hU : VR w w.heap.size U r'.s r'.a r'.b) (h : rsB r.s r.a r.b = true) (h' : rsB r'.s r'.a r'.b = true) :
    Calls Tryz.prog 91 #[V, U] w fun e w' => e = .returned (.int .i64 (cmpQ (qv r) (qv r'))) ∧ Below w.heap.size w w' := by
  obtain ⟨x, rfl, h1⟩ := rw_rat h
  obtain ⟨y, rfl, h2⟩ := rw_rat h'
  rw [qv_rwq, qv_rwq]
  exact rratOrder_any V U x y w hV hU (by omega)

set_option maxRecDepth 100000 in
set_option maxHeartbeats 16000000 in
theorem rord_go (m : Nat) : ∀ (p q : Dat), SizeOf.sizeOf p ≤ m → ∀ (vp vq : Value) (w : World), RD w w.heap.size p vp → RD w w.heap.size q vq → p.Good vU → q.Good vU →
    Calls Tryz.prog 72 #[vp, vq] w fun e w' => e = .returned (.int .i64 (p.ord numQ q)) ∧ Below w.heap.size w w' := by
  induction m with
  | zero =>
    intro p q hd
    exfalso
    cases p
    simp only [Dat.mk.sizeOf_spec] at hd
    omega
  | succ m ih =>
    intro p q hk2 vp vq w hR hS gp gq
    obtain ⟨T, hT⟩ : ∃ T, Hid (p.ord numQ q = T) := ⟨_, rfl⟩
    rw [hT.out]
    have hTp := hT
    clear hT
    have hR0 := hR
    have hS0 := hS
    obtain ⟨A1p, c1p, D1p, d1p, A2p, c2p, D2p, d2p, Rp, rcp, Lp, lcp, rfl, -⟩ := hR.view
    obtain ⟨A1q, c1q, D1q, d1q, A2q, c2q, D2q, d2q, Rq, rcq, Lq, lcq, rfl, -⟩ := hS.view
    have SP := SB.new w [.int .i64 p.k, .int .i64 p.n, .bool p.re.s, .slice A1p p.re.a.length c1p, .slice D1p p.re.b.length d1p, .bool p.im.s, .slice A2p p.im.a.length c2p, .slice D2p p.im.b.length d2p, .string p.t, .slice Rp p.raw.length rcp, .slice Lp p.l.length lcp] 30
    have B1 := bal w (.cells #[.int .i64 p.k, .int .i64 p.n, .bool p.re.s, .slice A1p p.re.a.length c1p, .slice D1p p.re.b.length d1p, .bool p.im.s, .slice A2p p.im.a.length c2p, .slice D2p p.im.b.length d2p, .string p.t, .slice Rp p.raw.length rcp, .slice Lp p.l.length lcp] 30)
    have SQ := SB.new (w.alloc (.cells #[.int .i64 p.k, .int .i64 p.n, .bool p.re.s, .slice A1p p.re.a.length c1p, .slice D1p p.re.b.length d1p, .bool p.im.s, .slice A2p p.im.a.length c2p, .slice D2p p.im.b.length d2p, .string p.t, .slice Rp p.raw.length rcp, .slice Lp p.l.length lcp] 30)) [.int .i64 q.k, .int .i64 q.n, .bool q.re.s, .slice A1q q.re.a.length c1q, .slice D1q q.re.b.length d1q, .bool q.im.s, .slice A2q q.im.a.length c2q, .slice D2q q.im.b.length d2q, .string q.t, .slice Rq q.raw.length rcq, .slice Lq q.l.length lcq] 30
    have B2 := bal (w.alloc (.cells #[.int .i64 p.k, .int .i64 p.n, .bool p.re.s, .slice A1p p.re.a.length c1p, .slice D1p p.re.b.length d1p, .bool p.im.s, .slice A2p p.im.a.length c2p, .slice D2p p.im.b.length d2p, .string p.t, .slice Rp p.raw.length rcp, .slice Lp p.l.length lcp] 30)) (.cells #[.int .i64 q.k, .int .i64 q.n, .bool q.re.s, .slice A1q q.re.a.length c1q, .slice D1q q.re.b.length d1q, .bool q.im.s, .slice A2q q.im.a.length c2q, .slice D2q q.im.b.length d2q, .string q.t, .slice Rq q.raw.length rcq, .slice Lq q.l.length lcq] 30)
    replace SP := SP.nx B2
    have BP := bt B1 B2
    have RP := hR0.st BP
    have RQ_ := hS0.st BP
    have z1 : (w.alloc (.cells #[.int .i64 p.k, .int .i64 p.n, .bool p.re.s, .slice A1p p.re.a.length c1p, .slice D1p p.re.b.length d1p, .bool p.im.s, .slice A2p p.im.a.length c2p, .slice D2p p.im.b.length d2p, .string p.t, .slice Rp p.raw.length rcp, .slice Lp p.l.length lcp] 30)).heap.size = w.heap.size + 1 := by simp
    rw [z1] at SQ
    obtain ⟨W0, hW0⟩ : ∃ W0, W0 = (w.alloc (.cells #[.int .i64 p.k, .int .i64 p.n, .bool p.re.s, .slice A1p p.re.a.length c1p, .slice D1p p.re.b.length d1p, .bool p.im.s, .slice A2p p.im.a.length c2p, .slice D2p p.im.b.length d2p, .string p.t, .slice Rp p.raw.length rcp, .slice Lp p.l.length lcp] 30)).alloc (.cells #[.int .i64 q.k, .int .i64 q.n, .bool q.re.s, .slice A1q q.re.a.length c1q, .slice D1q q.re.b.length d1q, .bool q.im.s, .slice A2q q.im.a.length c2q, .slice D2q q.im.b.length d2q, .string q.t, .slice Rq q.raw.length rcq, .slice Lq q.l.length lcq] 30) := ⟨_, rfl⟩
    go_enter Tryz.func72, Tryz.ntmps72
    go_upto_region 1 with fail
    rw [← hW0] at SP SQ BP RP RQ_ ⊢
    clear hW0 hR hS hR0 hS0 B1 B2 z1
    generalize hn : w.heap.size = n at *
    have hnw : n < W0.heap.size := SP.2
    have i0 := SP.cell 0
    have i1 := SP.cell 1
    have i2 := SP.cell 2
    have i3 := SP.cell 3
    have i4 := SP.cell 4
    have i5 := SP.cell 5
    have i6 := SP.cell 6
    have i7 := SP.cell 7
    have i8 := SP.cell 8
    have i9 := SP.cell 9
    have i10 := SP.cell 10
    have j0 := SQ.cell 0
    have j1 := SQ.cell 1
    have j2 := SQ.cell 2
    have j3 := SQ.cell 3
    have j4 := SQ.cell 4
    have j5 := SQ.cell 5
    have j6 := SQ.cell 6
    have j7 := SQ.cell 7
    have j8 := SQ.cell 8
    have j9 := SQ.cell 9
    have j10 := SQ.cell 10
    by_cases hk : p.k = q.k
    rotate_left
    · have hz : ¬ cmpZ p.k q.k = 0 := fun e => hk (cmpZ_zero.1 e)
      have t1 : (p.k != q.k) = true := bne_iff_ne.2 hk
      have hf : Hid (cmpZ p.k q.k = T) := Lib.hid (by rw [← hTp.out, ord_far hz])
      have hcall := fun w' => ints_any p.k q.k w'
      rw [hf.out] at hcall
      clear hTp hz hf hk
      go_wp2_with fail
      refine (hcall _).mono ?_; rintro e w6 ⟨rfl, rfl⟩
      go_wp2_with fail
      go_ret
      exact ⟨rfl, by rw [hn]; exact BP⟩
    have t1 : (p.k != q.k) = false := by rw [hk]; simp
    by_cases hc : p.k = 3
    · have n1 := gp.numOk hc
      have n2 := gq.numOk (hk.symm.trans hc)
      unfold nB at n1 n2
      rw [Bool.and_eq_true] at n1 n2
      obtain ⟨a1, a2, a3, a4⟩ := RP.words
      obtain ⟨b1, b2, b3, b4⟩ := RQ_.words
      have hcall := rOrd_any (r := p.re) (r' := q.re) ⟨_, _, _, _, rfl, a1, a2⟩ ⟨_, _, _, _, rfl, b1, b2⟩ n1.1 n2.1
      have hcall2 := fun V U w' h1 h2 => rOrd_any (V := V) (U := U) (w := w') (r := p.im) (r' := q.im) h1 h2 n1.2 n2.2
      have hf : Hid (T = if cmpQ (qv p.re) (qv q.re) ≠ 0 then cmpQ (qv p.re) (qv q.re) else cmpQ (qv p.im) (qv q.im)) := Lib.hid (by rw [← hTp.out, ord_num hk hc]; rfl)
      generalize cmpQ (qv p.re) (qv q.re) = k1 at *
      generalize cmpQ (qv p.im) (qv q.im) = k2 at *
      have s3 : (p.k == 3) = true := by rw [hc]; rfl
      have s5 : (p.k == 5) = false := by rw [hc]; rfl
      have s6 : (p.k == 6) = false := by rw [hc]; rfl
      have s11 : (p.k == 11) = false := by rw [hc]; rfl
      have s7 : (p.k == 7) = false := by rw [hc]; rfl
      have s8 : (p.k == 8) = false := by rw [hc]; rfl
      have s9 : (p.k == 9) = false := by rw [hc]; rfl
      replace hk := Lib.hid hk
      clear hc hTp
      go_wp2_with fail
      refine hcall.mono ?_; rintro e w6 ⟨rfl, B6⟩
      clear i0 j0 i1 j1 i2 j2 i3 j3 i4 j4 i5 j5 i6 j6 i7 j7 i8 j8 i9 j9 i10 j10
      have BP := BP.trans (B6.mono (Nat.le_of_lt hnw))
      have SP := SP.nx B6
      have SQ := SQ.nx B6
      have hcall2 := hcall2 _ _ w6 ⟨_, _, _, _, rfl, st a3 B6, st a4 B6⟩ ⟨_, _, _, _, rfl, st b3 B6, st b4 B6⟩
      have hnw := Nat.lt_of_lt_of_le hnw B6.size
      have i5 := SP.cell 5
      have j5 := SQ.cell 5
      have i6 := SP.cell 6
      have j6 := SQ.cell 6
      have i7 := SP.cell 7
      have j7 := SQ.cell 7
      by_cases h0 : k1 = 0
      · have t5 : (k1 != 0) = false := by rw [h0]; rfl
        have hf2 : Hid (T = k2) := Lib.hid (by rw [hf.out, if_neg (by simp [h0])])
        clear hf h0
        go_wp2_with fail
        refine hcall2.mono ?_; rintro e w7 ⟨rfl, B7⟩
        go_wp2_with fail
        go_ret
        exact ⟨by rw [hf2.out]; rfl, by rw [hn]; exact BP.trans (B7.mono (Nat.le_of_lt hnw))⟩
      · have t5 : (k1 != 0) = true := bne_iff_ne.2 h0
        have hf2 : Hid (T = k1) := Lib.hid (by rw [hf.out, if_pos h0])
        clear hf h0 hcall2
        go_wp2_with fail
        go_ret
        exact ⟨by rw [hf2.out]; rfl, by rw [hn]; exact BP⟩
    have h3 := hc
    clear hc
    by_cases hc : p.k = 5
    · have hf : Hid (cmpL (runesD p.t.data.toList) (runesD q.t.data.toList) = T) := Lib.hid (by rw [← hTp.out, ord_text hk (by unfold textK; simp [hc]), text_order (shape_valid gp.shape) (shape_valid gq.shape)])
      have zp : p.t.size ≤ 1048576 := by obtain ⟨_, _, _, _, _, _, _, _, _, _, _, _, _, _, hh, _⟩ := RP.view; exact hh.2.2
      have zq : q.t.size ≤ 1048576 := by obtain ⟨_, _, _, _, _, _, _, _, _, _, _, _, _, _, hh, _⟩ := RQ_.view; exact hh.2.2
      have hc1 := fun w' => runes_any p.t w' zp
      have hc2 := fun w' => runes_any q.t w' zq
      have hrow := fun A c D d w' h1 h2 => row_any A c D d (runesD p.t.data.toList) (runesD q.t.data.toList) w' h1 h2 (runesD_le _) (runesD_le _)
      rw [hf.out] at hrow
      generalize runesD p.t.data.toList = la at *
      generalize runesD q.t.data.toList = lb at *
      have s3 : (p.k == 3) = false := by rw [hc]; rfl
      have s5 : (p.k == 5) = true := by rw [hc]; rfl
      have s6 : (p.k == 6) = false := by rw [hc]; rfl
      have s11 : (p.k == 11) = false := by rw [hc]; rfl
      have s7 : (p.k == 7) = false := by rw [hc]; rfl
      have s8 : (p.k == 8) = false := by rw [hc]; rfl
      have s9 : (p.k == 9) = false := by rw [hc]; rfl
      replace hk := Lib.hid hk
      clear hc hTp hf
      go_upto_region 12 with fail
      have Dw := (Below.refl W0.heap.size W0).drew
      have BP : Below n w W0.drew := bdN BP 1
      have SP := SP.nx Dw
      have SQ := SQ.nx Dw
      have RP := RP.st Dw
      have RQ_ := RQ_.st Dw
      have hnw : n < W0.drew.heap.size := SP.2
      clear i0 j0 i1 j1 i2 j2 i3 j3 i4 j4 i5 j5 i6 j6 i7 j7 i8 j8 i9 j9 i10 j10 Dw
      refine AnyV.regionQ 8 8 (fun w' => w'.cell? ⟨n, 8, none⟩ = some (.string p.t) ∧ w'.cell? ⟨n + 1, 8, none⟩ = some (.string q.t)) rfl (by kernel_rfl) (by kernel_rfl) (by repeat (first | refine quiet_then ?_ | refine quiet_block ?_ | exact quiet_body)) ⟨SP.cell 8, SQ.cell 8⟩ (fun Q hQK hq hns hHeld => ?_)
      generalize W0.drew = w6 at *
      refine AnyV.next (i := 0) (v := ?_) hq hns hHeld rfl rfl (by kernel_rfl) (Or.inl ⟨by rfl, ?_⟩) ?_
      rotate_left
      · intro w' hSw; (try dsimp only at hSw); go_simp <;> with_reducible rfl
      try simp only [List.setIfInBounds_toArray, List.set_cons_zero, List.set_cons_succ]
      refine AnyV.next (i := 1) (v := ?_) hq hns hHeld rfl rfl (by kernel_rfl) (Or.inl ⟨by rfl, ?_⟩) ?_
      rotate_left
      · intro w' hSw; (try dsimp only at hSw); go_simp <;> with_reducible rfl
      try simp only [List.setIfInBounds_toArray, List.set_cons_zero, List.set_cons_succ]
      refine AnyV.next (i := 3) (v := ?_) hq hns hHeld rfl rfl (by kernel_rfl) (Or.inl ⟨by rfl, ?_⟩) ?_
      rotate_left
      · intro w' hSw; (try dsimp only at hSw); go_simp <;> with_reducible rfl
      try simp only [List.setIfInBounds_toArray, List.set_cons_zero, List.set_cons_succ]
      refine AnyV.next (i := 4) (v := ?_) hq hns hHeld rfl rfl (by kernel_rfl) (Or.inl ⟨by rfl, ?_⟩) ?_
      rotate_left
      · intro w' hSw; (try dsimp only at hSw); go_simp <;> with_reducible rfl
      try simp only [List.setIfInBounds_toArray, List.set_cons_zero, List.set_cons_succ]
      refine AnyV.one 2 (by kernel_rfl) rfl (fun K hK => ?_)
      go_simp
      refine (hc1 w6).mono ?_; rintro e w7 ⟨E1, k1, rfl, O1, B7⟩
      go_wp2_with fail
      refine hK.out _ _ (.inr ⟨(SP.nx B7).cell 8, (SQ.nx B7).cell 8⟩) (fun hHeld => ?_)
      have hHeld := hHeld.resolve_left (by decide)
      clear hK K
      try simp only [List.setIfInBounds_toArray, List.set_cons_zero, List.set_cons_succ]
      refine AnyV.one 5 (by kernel_rfl) rfl (fun K hK => ?_)
      go_simp
      refine (hc2 w7).mono ?_; rintro e w8 ⟨E2, k2, rfl, O2, B8⟩
      have O1' := RL.step O1.rl B8 B8.size
      go_wp2_with fail
      refine hK.out _ _ (.inr ⟨((SP.nx B7).nx B8).cell 8, ((SQ.nx B7).nx B8).cell 8⟩) (fun hHeld => ?_)
      have hHeld := hHeld.resolve_left (by decide)
      clear hK K
      try simp only [List.setIfInBounds_toArray, List.set_cons_zero, List.set_cons_succ]
      refine AnyV.one 6 (by kernel_rfl) rfl (fun K hK => ?_)
      go_simp
      refine (hrow _ _ _ _ w8 O1' O2.rl).mono ?_; rintro e w9 ⟨rfl, B9⟩
      go_wp2_with fail
      refine hK.out _ _ (.inr ⟨(((SP.nx B7).nx B8).nx B9).cell 8, (((SQ.nx B7).nx B8).nx B9).cell 8⟩) (fun hHeld => ?_)
      have hHeld := hHeld.resolve_left (by decide)
      clear hK K
      try simp only [List.setIfInBounds_toArray, List.set_cons_zero, List.set_cons_succ]
      refine AnyV.one 7 (by kernel_rfl) rfl (fun K hK => ?_)
      go_simp
      refine hK.out _ _ (.inr hHeld) (fun _ => ?_)
      clear hK K
      try simp only [List.setIfInBounds_toArray, List.set_cons_zero, List.set_cons_succ]
      refine AnyV.done (by kernel_rfl) (hQK.out _ _ ?_)
      clear hQK hq hns hHeld
      go_wp2_with fail
      go_ret
      exact ⟨rfl, by rw [hn]; exact ((BP.trans (B7.mono (Nat.le_of_lt hnw))).trans (B8.mono (Nat.le_trans (Nat.le_of_lt hnw) B7.size))).trans (B9.mono (Nat.le_trans (Nat.le_trans (Nat.le_of_lt hnw) B7.size) B8.size))⟩
    have h5 := hc
    clear hc
    by_cases hc : p.k = 6
    · have hf : Hid (cmpL (runesD p.t.data.toList) (runesD q.t.data.toList) = T) := Lib.hid (by rw [← hTp.out, ord_text hk (by unfold textK; simp [hc]), text_order (shape_valid gp.shape) (shape_valid gq.shape)])
      have zp : p.t.size ≤ 1048576 := by obtain ⟨_, _, _, _, _, _, _, _, _, _, _, _, _, _, hh, _⟩ := RP.view; exact hh.2.2
      have zq : q.t.size ≤ 1048576 := by obtain ⟨_, _, _, _, _, _, _, _, _, _, _, _, _, _, hh, _⟩ := RQ_.view; exact hh.2.2
      have hc1 := fun w' => runes_any p.t w' zp
      have hc2 := fun w' => runes_any q.t w' zq
      have hrow := fun A c D d w' h1 h2 => row_any A c D d (runesD p.t.data.toList) (runesD q.t.data.toList) w' h1 h2 (runesD_le _) (runesD_le _)
      rw [hf.out] at hrow
      generalize runesD p.t.data.toList = la at *
      generalize runesD q.t.data.toList = lb at *
      have s3 : (p.k == 3) = false := by rw [hc]; rfl
      have s5 : (p.k == 5) = false := by rw [hc]; rfl
      have s6 : (p.k == 6) = true := by rw [hc]; rfl
      have s11 : (p.k == 11) = false := by rw [hc]; rfl
      have s7 : (p.k == 7) = false := by rw [hc]; rfl
      have s8 : (p.k == 8) = false := by rw [hc]; rfl
      have s9 : (p.k == 9) = false := by rw [hc]; rfl
      replace hk := Lib.hid hk
      clear hc hTp hf
      go_upto_region 12 with fail
      have Dw := (Below.refl W0.heap.size W0).drew
      have BP : Below n w W0.drew := bdN BP 1
      have SP := SP.nx Dw
      have SQ := SQ.nx Dw
      have RP := RP.st Dw
      have RQ_ := RQ_.st Dw
      have hnw : n < W0.drew.heap.size := SP.2
      clear i0 j0 i1 j1 i2 j2 i3 j3 i4 j4 i5 j5 i6 j6 i7 j7 i8 j8 i9 j9 i10 j10 Dw
      refine AnyV.regionQ 8 8 (fun w' => w'.cell? ⟨n, 8, none⟩ = some (.string p.t) ∧ w'.cell? ⟨n + 1, 8, none⟩ = some (.string q.t)) rfl (by kernel_rfl) (by kernel_rfl) (by repeat (first | refine quiet_then ?_ | refine quiet_block ?_ | exact quiet_body)) ⟨SP.cell 8, SQ.cell 8⟩ (fun Q hQK hq hns hHeld => ?_)
      generalize W0.drew = w6 at *
      refine AnyV.next (i := 0) (v := ?_) hq hns hHeld rfl rfl (by kernel_rfl) (Or.inl ⟨by rfl, ?_⟩) ?_
      rotate_left
      · intro w' hSw; (try dsimp only at hSw); go_simp <;> with_reducible rfl
      try simp only [List.setIfInBounds_toArray, List.set_cons_zero, List.set_cons_succ]
      refine AnyV.next (i := 1) (v := ?_) hq hns hHeld rfl rfl (by kernel_rfl) (Or.inl ⟨by rfl, ?_⟩) ?_
      rotate_left
      · intro w' hSw; (try dsimp only at hSw); go_simp <;> with_reducible rfl
      try simp only [List.setIfInBounds_toArray, List.set_cons_zero, List.set_cons_succ]
      refine AnyV.next (i := 3) (v := ?_) hq hns hHeld rfl rfl (by kernel_rfl) (Or.inl ⟨by rfl, ?_⟩) ?_
      rotate_left
      · intro w' hSw; (try dsimp only at hSw); go_simp <;> with_reducible rfl
      try simp only [List.setIfInBounds_toArray, List.set_cons_zero, List.set_cons_succ]
      refine AnyV.next (i := 4) (v := ?_) hq hns hHeld rfl rfl (by kernel_rfl) (Or.inl ⟨by rfl, ?_⟩) ?_
      rotate_left
      · intro w' hSw; (try dsimp only at hSw); go_simp <;> with_reducible rfl
      try simp only [List.setIfInBounds_toArray, List.set_cons_zero, List.set_cons_succ]
      refine AnyV.one 2 (by kernel_rfl) rfl (fun K hK => ?_)
      go_simp
      refine (hc1 w6).mono ?_; rintro e w7 ⟨E1, k1, rfl, O1, B7⟩
      go_wp2_with fail
      refine hK.out _ _ (.inr ⟨(SP.nx B7).cell 8, (SQ.nx B7).cell 8⟩) (fun hHeld => ?_)
      have hHeld := hHeld.resolve_left (by decide)
      clear hK K
      try simp only [List.setIfInBounds_toArray, List.set_cons_zero, List.set_cons_succ]
      refine AnyV.one 5 (by kernel_rfl) rfl (fun K hK => ?_)
      go_simp
      refine (hc2 w7).mono ?_; rintro e w8 ⟨E2, k2, rfl, O2, B8⟩
      have O1' := RL.step O1.rl B8 B8.size
      go_wp2_with fail
      refine hK.out _ _ (.inr ⟨((SP.nx B7).nx B8).cell 8, ((SQ.nx B7).nx B8).cell 8⟩) (fun hHeld => ?_)
      have hHeld := hHeld.resolve_left (by decide)
      clear hK K
      try simp only [List.setIfInBounds_toArray, List.set_cons_zero, List.set_cons_succ]
      refine AnyV.one 6 (by kernel_rfl) rfl (fun K hK => ?_)
      go_simp
      refine (hrow _ _ _ _ w8 O1' O2.rl).mono ?_; rintro e w9 ⟨rfl, B9⟩
      go_wp2_with fail
      refine hK.out _ _ (.inr ⟨(((SP.nx B7).nx B8).nx B9).cell 8, (((SQ.nx B7).nx B8).nx B9).cell 8⟩) (fun hHeld => ?_)
      have hHeld := hHeld.resolve_left (by decide)
      clear hK K
      try simp only [List.setIfInBounds_toArray, List.set_cons_zero, List.set_cons_succ]
      refine AnyV.one 7 (by kernel_rfl) rfl (fun K hK => ?_)
      go_simp
      refine hK.out _ _ (.inr hHeld) (fun _ => ?_)
      clear hK K
      try simp only [List.setIfInBounds_toArray, List.set_cons_zero, List.set_cons_succ]
      refine AnyV.done (by kernel_rfl) (hQK.out _ _ ?_)
      clear hQK hq hns hHeld
      go_wp2_with fail
      go_ret
      exact ⟨rfl, by rw [hn]; exact ((BP.trans (B7.mono (Nat.le_of_lt hnw))).trans (B8.mono (Nat.le_trans (Nat.le_of_lt hnw) B7.size))).trans (B9.mono (Nat.le_trans (Nat.le_trans (Nat.le_of_lt hnw) B7.size) B8.size))⟩
    have h6 := hc
    clear hc
    by_cases hc : p.k = 11
    · have hf : Hid (cmpL (runesD p.t.data.toList) (runesD q.t.data.toList) = T) := Lib.hid (by rw [← hTp.out, ord_text hk (by unfold textK; simp [hc]), text_order (shape_valid gp.shape) (shape_valid gq.shape)])
      have zp : p.t.size ≤ 1048576 := by obtain ⟨_, _, _, _, _, _, _, _, _, _, _, _, _, _, hh, _⟩ := RP.view; exact hh.2.2
      have zq : q.t.size ≤ 1048576 := by obtain ⟨_, _, _, _, _, _, _, _, _, _, _, _, _, _, hh, _⟩ := RQ_.view; exact hh.2.2
      have hc1 := fun w' => runes_any p.t w' zp
      have hc2 := fun w' => runes_any q.t w' zq
      have hrow := fun A c D d w' h1 h2 => row_any A c D d (runesD p.t.data.toList) (runesD q.t.data.toList) w' h1 h2 (runesD_le _) (runesD_le _)
      rw [hf.out] at hrow
      generalize runesD p.t.data.toList = la at *
      generalize runesD q.t.data.toList = lb at *
      have s3 : (p.k == 3) = false := by rw [hc]; rfl
      have s5 : (p.k == 5) = false := by rw [hc]; rfl
      have s6 : (p.k == 6) = false := by rw [hc]; rfl
      have s11 : (p.k == 11) = true := by rw [hc]; rfl
      have s7 : (p.k == 7) = false := by rw [hc]; rfl
      have s8 : (p.k == 8) = false := by rw [hc]; rfl
      have s9 : (p.k == 9) = false := by rw [hc]; rfl
      replace hk := Lib.hid hk
      clear hc hTp hf
      go_upto_region 12 with fail
      have Dw := (Below.refl W0.heap.size W0).drew
      have BP : Below n w W0.drew := bdN BP 1
      have SP := SP.nx Dw
      have SQ := SQ.nx Dw
      have RP := RP.st Dw
      have RQ_ := RQ_.st Dw
      have hnw : n < W0.drew.heap.size := SP.2
      clear i0 j0 i1 j1 i2 j2 i3 j3 i4 j4 i5 j5 i6 j6 i7 j7 i8 j8 i9 j9 i10 j10 Dw
      refine AnyV.regionQ 8 8 (fun w' => w'.cell? ⟨n, 8, none⟩ = some (.string p.t) ∧ w'.cell? ⟨n + 1, 8, none⟩ = some (.string q.t)) rfl (by kernel_rfl) (by kernel_rfl) (by repeat (first | refine quiet_then ?_ | refine quiet_block ?_ | exact quiet_body)) ⟨SP.cell 8, SQ.cell 8⟩ (fun Q hQK hq hns hHeld => ?_)
      generalize W0.drew = w6 at *
      refine AnyV.next (i := 0) (v := ?_) hq hns hHeld rfl rfl (by kernel_rfl) (Or.inl ⟨by rfl, ?_⟩) ?_
      rotate_left
      · intro w' hSw; (try dsimp only at hSw); go_simp <;> with_reducible rfl
      try simp only [List.setIfInBounds_toArray, List.set_cons_zero, List.set_cons_succ]
      refine AnyV.next (i := 1) (v := ?_) hq hns hHeld rfl rfl (by kernel_rfl) (Or.inl ⟨by rfl, ?_⟩) ?_
      rotate_left
      · intro w' hSw; (try dsimp only at hSw); go_simp <;> with_reducible rfl
      try simp only [List.setIfInBounds_toArray, List.set_cons_zero, List.set_cons_succ]
      refine AnyV.next (i := 3) (v := ?_) hq hns hHeld rfl rfl (by kernel_rfl) (Or.inl ⟨by rfl, ?_⟩) ?_
      rotate_left
      · intro w' hSw; (try dsimp only at hSw); go_simp <;> with_reducible rfl
      try simp only [List.setIfInBounds_toArray, List.set_cons_zero, List.set_cons_succ]
      refine AnyV.next (i := 4) (v := ?_) hq hns hHeld rfl rfl (by kernel_rfl) (Or.inl ⟨by rfl, ?_⟩) ?_
      rotate_left
      · intro w' hSw; (try dsimp only at hSw); go_simp <;> with_reducible rfl
      try simp only [List.setIfInBounds_toArray, List.set_cons_zero, List.set_cons_succ]
      refine AnyV.one 2 (by kernel_rfl) rfl (fun K hK => ?_)
      go_simp
      refine (hc1 w6).mono ?_; rintro e w7 ⟨E1, k1, rfl, O1, B7⟩
      go_wp2_with fail
      refine hK.out _ _ (.inr ⟨(SP.nx B7).cell 8, (SQ.nx B7).cell 8⟩) (fun hHeld => ?_)
      have hHeld := hHeld.resolve_left (by decide)
      clear hK K
      try simp only [List.setIfInBounds_toArray, List.set_cons_zero, List.set_cons_succ]
      refine AnyV.one 5 (by kernel_rfl) rfl (fun K hK => ?_)
      go_simp
      refine (hc2 w7).mono ?_; rintro e w8 ⟨E2, k2, rfl, O2, B8⟩
      have O1' := RL.step O1.rl B8 B8.size
      go_wp2_with fail
      refine hK.out _ _ (.inr ⟨((SP.nx B7).nx B8).cell 8, ((SQ.nx B7).nx B8).cell 8⟩) (fun hHeld => ?_)
      have hHeld := hHeld.resolve_left (by decide)
      clear hK K
      try simp only [List.setIfInBounds_toArray, List.set_cons_zero, List.set_cons_succ]
      refine AnyV.one 6 (by kernel_rfl) rfl (fun K hK => ?_)
      go_simp
      refine (hrow _ _ _ _ w8 O1' O2.rl).mono ?_; rintro e w9 ⟨rfl, B9⟩
      go_wp2_with fail
      refine hK.out _ _ (.inr ⟨(((SP.nx B7).nx B8).nx B9).cell 8, (((SQ.nx B7).nx B8).nx B9).cell 8⟩) (fun hHeld => ?_)
      have hHeld := hHeld.resolve_left (by decide)
      clear hK K
      try simp only [List.setIfInBounds_toArray, List.set_cons_zero, List.set_cons_succ]
      refine AnyV.one 7 (by kernel_rfl) rfl (fun K hK => ?_)
      go_simp
      refine hK.out _ _ (.inr hHeld) (fun _ => ?_)
      clear hK K
      try simp only [List.setIfInBounds_toArray, List.set_cons_zero, List.set_cons_succ]
      refine AnyV.done (by kernel_rfl) (hQK.out _ _ ?_)
      clear hQK hq hns hHeld
      go_wp2_with fail
      go_ret
      exact ⟨rfl, by rw [hn]; exact ((BP.trans (B7.mono (Nat.le_of_lt hnw))).trans (B8.mono (Nat.le_trans (Nat.le_of_lt hnw) B7.size))).trans (B9.mono (Nat.le_trans (Nat.le_trans (Nat.le_of_lt hnw) B7.size) B8.size))⟩
    have h11 := hc
    clear hc
    by_cases hc : p.k = 7
    · have hf : Hid (cmpL (p.raw.map (·.toNat)) (q.raw.map (·.toNat)) = T) := Lib.hid (by rw [← hTp.out, ord_raw' hk hc])
      have hc1 := fun w' h => raw_any Rp rcp p.raw w' h
      have hc2 := fun w' h => raw_any Rq rcq q.raw w' h
      have hrow := fun A c D d w' h1 h2 => row_any A c D d (p.raw.map (·.toNat)) (q.raw.map (·.toNat)) w' h1 h2 (raw_le _) (raw_le _)
      rw [hf.out] at hrow
      generalize p.raw.map (·.toNat) = la at *
      generalize q.raw.map (·.toNat) = lb at *
      have s3 : (p.k == 3) = false := by rw [hc]; rfl
      have s5 : (p.k == 5) = false := by rw [hc]; rfl
      have s6 : (p.k == 6) = false := by rw [hc]; rfl
      have s11 : (p.k == 11) = false := by rw [hc]; rfl
      have s7 : (p.k == 7) = true := by rw [hc]; rfl
      have s8 : (p.k == 8) = false := by rw [hc]; rfl
      have s9 : (p.k == 9) = false := by rw [hc]; rfl
      replace hk := Lib.hid hk
      clear hc hTp hf
      go_upto_region 14 with fail
      have Dw := (Below.refl W0.heap.size W0).drew
      have BP : Below n w W0.drew := bdN BP 1
      have SP := SP.nx Dw
      have SQ := SQ.nx Dw
      have RP := RP.st Dw
      have RQ_ := RQ_.st Dw
      have hnw : n < W0.drew.heap.size := SP.2
      clear i0 j0 i1 j1 i2 j2 i3 j3 i4 j4 i5 j5 i6 j6 i7 j7 i8 j8 i9 j9 i10 j10 Dw
      refine AnyV.regionQ 8 8 (fun w' => w'.cell? ⟨n, 9, none⟩ = some (.slice Rp p.raw.length rcp) ∧ w'.cell? ⟨n + 1, 9, none⟩ = some (.slice Rq q.raw.length rcq)) rfl (by kernel_rfl) (by kernel_rfl) (by repeat (first | refine quiet_then ?_ | refine quiet_block ?_ | exact quiet_body)) ⟨SP.cell 9, SQ.cell 9⟩ (fun Q hQK hq hns hHeld => ?_)
      generalize W0.drew = w6 at *
      refine AnyV.next (i := 0) (v := ?_) hq hns hHeld rfl rfl (by kernel_rfl) (Or.inl ⟨by rfl, ?_⟩) ?_
      rotate_left
      · intro w' hSw; (try dsimp only at hSw); go_simp <;> with_reducible rfl
      try simp only [List.setIfInBounds_toArray, List.set_cons_zero, List.set_cons_succ]
      refine AnyV.next (i := 1) (v := ?_) hq hns hHeld rfl rfl (by kernel_rfl) (Or.inl ⟨by rfl, ?_⟩) ?_
      rotate_left
      · intro w' hSw; (try dsimp only at hSw); go_simp <;> with_reducible rfl
      try simp only [List.setIfInBounds_toArray, List.set_cons_zero, List.set_cons_succ]
      refine AnyV.next (i := 3) (v := ?_) hq hns hHeld rfl rfl (by kernel_rfl) (Or.inl ⟨by rfl, ?_⟩) ?_
      rotate_left
      · intro w' hSw; (try dsimp only at hSw); go_simp <;> with_reducible rfl
      try simp only [List.setIfInBounds_toArray, List.set_cons_zero, List.set_cons_succ]
      refine AnyV.next (i := 4) (v := ?_) hq hns hHeld rfl rfl (by kernel_rfl) (Or.inl ⟨by rfl, ?_⟩) ?_
      rotate_left
      · intro w' hSw; (try dsimp only at hSw); go_simp <;> with_reducible rfl
      try simp only [List.setIfInBounds_toArray, List.set_cons_zero, List.set_cons_succ]
      refine AnyV.one 2 (by kernel_rfl) rfl (fun K hK => ?_)
      go_simp
      refine (hc1 w6 RP.rawR).mono ?_; rintro e w7 ⟨E1, k1, rfl, O1, B7⟩
      go_wp2_with fail
      refine hK.out _ _ (.inr ⟨(SP.nx B7).cell 9, (SQ.nx B7).cell 9⟩) (fun hHeld => ?_)
      have hHeld := hHeld.resolve_left (by decide)
      clear hK K
      try simp only [List.setIfInBounds_toArray, List.set_cons_zero, List.set_cons_succ]
      refine AnyV.one 5 (by kernel_rfl) rfl (fun K hK => ?_)
      go_simp
      refine (hc2 w7 (RQ_.st B7).rawR).mono ?_; rintro e w8 ⟨E2, k2, rfl, O2, B8⟩
      have O1' := RL.step O1.rl B8 B8.size
      go_wp2_with fail
      refine hK.out _ _ (.inr ⟨((SP.nx B7).nx B8).cell 9, ((SQ.nx B7).nx B8).cell 9⟩) (fun hHeld => ?_)
      have hHeld := hHeld.resolve_left (by decide)
      clear hK K
      try simp only [List.setIfInBounds_toArray, List.set_cons_zero, List.set_cons_succ]
      refine AnyV.one 6 (by kernel_rfl) rfl (fun K hK => ?_)
      go_simp
      refine (hrow _ _ _ _ w8 O1' O2.rl).mono ?_; rintro e w9 ⟨rfl, B9⟩
      go_wp2_with fail
      refine hK.out _ _ (.inr ⟨(((SP.nx B7).nx B8).nx B9).cell 9, (((SQ.nx B7).nx B8).nx B9).cell 9⟩) (fun hHeld => ?_)
      have hHeld := hHeld.resolve_left (by decide)
      clear hK K
      try simp only [List.setIfInBounds_toArray, List.set_cons_zero, List.set_cons_succ]
      refine AnyV.one 7 (by kernel_rfl) rfl (fun K hK => ?_)
      go_simp
      refine hK.out _ _ (.inr hHeld) (fun _ => ?_)
      clear hK K
      try simp only [List.setIfInBounds_toArray, List.set_cons_zero, List.set_cons_succ]
      refine AnyV.done (by kernel_rfl) (hQK.out _ _ ?_)
      clear hQK hq hns hHeld
      go_wp2_with fail
      go_ret
      exact ⟨rfl, by rw [hn]; exact ((BP.trans (B7.mono (Nat.le_of_lt hnw))).trans (B8.mono (Nat.le_trans (Nat.le_of_lt hnw) B7.size))).trans (B9.mono (Nat.le_trans (Nat.le_trans (Nat.le_of_lt hnw) B7.size) B8.size))⟩
    have h7 := hc
    clear hc
    by_cases h89 : p.k = 8 ∨ p.k = 9
    rotate_left
    · have h8 : ¬ p.k = 8 := fun e => h89 (.inl e)
      have h9 : ¬ p.k = 9 := fun e => h89 (.inr e)
      have hf : Hid (cmpZ p.n q.n = T) := Lib.hid (by rw [← hTp.out, ord_else hk h3 (by unfold textK; simp [h5, h6, h11]) h7 h8 h9])
      have hcall := fun w' => ints_any p.n q.n w'
      rw [hf.out] at hcall
      have s3 : (p.k == 3) = false := beq_false_of_ne h3
      have s5 : (p.k == 5) = false := beq_false_of_ne h5
      have s6 : (p.k == 6) = false := beq_false_of_ne h6
      have s11 : (p.k == 11) = false := beq_false_of_ne h11
      have s7 : (p.k == 7) = false := beq_false_of_ne h7
      have s8 : (p.k == 8) = false := beq_false_of_ne h8
      have s9 : (p.k == 9) = false := beq_false_of_ne h9
      replace hk := Lib.hid hk
      clear hTp hf h89 h3 h5 h6 h11 h7 h8 h9
      go_wp2_with fail
      refine (hcall _).mono ?_; rintro e w6 ⟨rfl, rfl⟩
      go_wp2_with fail
      go_ret
      exact ⟨rfl, by rw [hn]; exact BP⟩
    have hTv := Lib.hid (hTp.out ▸ ord_list hk h89 : T = if cmpZ p.l.length q.l.length ≠ 0 then cmpZ p.l.length q.l.length else ordL numQ p.l q.l)
    have hlP : p.l.length ≤ 35184372088832 := by obtain ⟨_, _, _, _, _, _, _, _, _, _, _, _, _, _, _, hh, _⟩ := RP.view; exact hh.2
    have s3 : (p.k == 3) = false := beq_false_of_ne h3
    have s5 : (p.k == 5) = false := beq_false_of_ne h5
    have s6 : (p.k == 6) = false := beq_false_of_ne h6
    have s11 : (p.k == 11) = false := beq_false_of_ne h11
    have s7 : (p.k == 7) = false := beq_false_of_ne h7
    clear hTp h3 h5 h6 h11 h7
    replace hk := Lib.hid hk
    obtain ⟨b8, hb8⟩ : ∃ b8, (p.k == 8) = b8 := ⟨_, rfl⟩
    go_upto_if 59 with fail
    go_cut [59] (fun s59 wx => s59 = .bool true ∧ wx = W0)
    case first =>
      cases b8 with
      | true =>
        go_wp2_with fail
        go_meet
        exact ⟨rfl, rfl⟩
      | false =>
        have s9 : (p.k == 9) = true := by
          rcases h89 with h8 | h8
          · rw [h8] at hb8; cases hb8
          · rw [h8]; rfl
        go_wp2_with fail
        go_meet
        exact ⟨rfl, rfl⟩
    case rest =>
    obtain ⟨rfl, hwc⟩ := hcut
    subst hwc
    clear hb8
    replace h89 := Lib.hid h89
    by_cases hll : p.l.length = q.l.length
    rotate_left
    · have hz : ¬ cmpZ p.l.length q.l.length = 0 := fun e => hll (by have := cmpZ_zero.1 e; omega)
      have t5 : ((p.l.length : Int) != (q.l.length : Int)) = true := bne_iff_ne.2 (by omega)
      have hf : Hid (cmpZ p.l.length q.l.length = T) := Lib.hid (by rw [hTv.out, if_pos hz])
      have hcall := fun w' => ints_any (p.l.length : Int) (q.l.length : Int) w'
      rw [hf.out] at hcall
      clear hTv hz hf hll
      go_wp2_with fail
      refine (hcall _).mono ?_; rintro e w6 ⟨rfl, rfl⟩
      go_wp2_with fail
      go_ret
      exact ⟨rfl, by rw [hn]; exact BP⟩
    have t5 : ((p.l.length : Int) != (q.l.length : Int)) = false := by rw [hll]; simp
    replace hTv : Hid (ordL numQ (p.l.drop 0) (q.l.drop 0) = T) := Lib.hid (by rw [hTv.out, if_neg (by simp [cmpZ_zero, hll])]; rfl)
    replace hll := Lib.hid hll
    go_upto_region 20 with fail
    clear i0 j0 i1 j1 i2 j2 i3 j3 i4 j4 i5 j5 i6 j6 i7 j7 i8 j8 i9 j9 i10 j10
    go_loopg [6] p.l.length (fun gk s6 wx => ∃ i : Nat, s6 = .int .i64 (i : Int) ∧ i ≤ p.l.length ∧ p.l.length - i = gk ∧ Hid (ordL numQ (p.l.drop i) (q.l.drop i) = T) ∧ SB wx n [.int .i64 p.k, .int .i64 p.n, .bool p.re.s, .slice A1p p.re.a.length c1p, .slice D1p p.re.b.length d1p, .bool p.im.s, .slice A2p p.im.a.length c2p, .slice D2p p.im.b.length d2p, .string p.t, .slice Rp p.raw.length rcp, .slice Lp p.l.length lcp] ∧ SB wx (n + 1) [.int .i64 q.k, .int .i64 q.n, .bool q.re.s, .slice A1q q.re.a.length c1q, .slice D1q q.re.b.length d1q, .bool q.im.s, .slice A2q q.im.a.length c2q, .slice D2q q.im.b.length d2q, .string q.t, .slice Rq q.raw.length rcq, .slice Lq q.l.length lcq] ∧ RD wx wx.heap.size p (.agg #[.int .i64 p.k, .int .i64 p.n, .bool p.re.s, .slice A1p p.re.a.length c1p, .slice D1p p.re.b.length d1p, .bool p.im.s, .slice A2p p.im.a.length c2p, .slice D2p p.im.b.length d2p, .string p.t, .slice Rp p.raw.length rcp, .slice Lp p.l.length lcp]) ∧ RD wx wx.heap.size q (.agg #[.int .i64 q.k, .int .i64 q.n, .bool q.re.s, .slice A1q q.re.a.length c1q, .slice D1q q.re.b.length d1q, .bool q.im.s, .slice A2q q.im.a.length c2q, .slice D2q q.im.b.length d2q, .string q.t, .slice Rq q.raw.length rcq, .slice Lq q.l.length lcq]) ∧ Below n w wx)
    case atStart => exact ⟨0, rfl, Nat.zero_le _, rfl, hTv, SP, SQ, RP, RQ_, BP⟩
    case round =>
      obtain ⟨i, rfl, hil, hgk, hTi, SP2, SQ2, RP2, RQ2, BP2⟩ := hrel
      clear SP SQ RP RQ_ BP hTv hnw
      have hnw : n < wr.heap.size := SP2.2
      have i10 := SP2.cell 10
      by_cases hi : i < p.l.length
      · have hi' : i < q.l.length := by rw [← hll.out]; exact hi
        obtain ⟨bA, oA, hA, hbA, dA⟩ := RP2.kids (by omega)
        obtain ⟨bB, oB, hB, hbB, dB⟩ := RQ2.kids (by omega)
        have hx1 := List.getElem?_eq_getElem hi
        have hy1 := List.getElem?_eq_getElem hi'
        have gx := gp.kids _ (List.getElem_mem hi)
        have gy := gq.kids _ (List.getElem_mem hi')
        have hsz : SizeOf.sizeOf p.l[i] ≤ m := by have := Dat.lt_of_mem (d := p) (List.getElem_mem hi); omega
        have hTi := hTi.out
        rw [List.drop_eq_getElem_cons hi, List.drop_eq_getElem_cons hi', ordL] at hTi
        generalize p.l[i] = x at *
        generalize q.l[i] = y at *
        obtain ⟨vx, Rx, cx⟩ := dA.get hx1
        obtain ⟨vy, Ry, cy⟩ := dB.get hy1
        obtain ⟨xs, rfl, xl, -⟩ := Rx.agg
        obtain ⟨ys, rfl, yl, -⟩ := Ry.agg
        have cx : wr.drew.rangeAt bA (oA + i * 11) xs := fun j u hj => cx _ rfl j u (by simpa using hj)
        have cy : wr.drew.rangeAt bB (oB + i * 11) ys := fun j u hj => cy _ rfl j u (by simpa using hj)
        clear dA dB hx1 hy1
        subst hA hB
        have hwi : IntKind.i64.wrap ((i : Int) + 1) = (i : Int) + 1 := IntWalk.i64_in _ (by omega)
        have hli : (i : Int) < (p.l.length : Int) := by omega
        have hli' : (i : Int) < (q.l.length : Int) := by omega
        go_upto_region 22 with fail
        clear i10
        have Dw := (Below.refl wr.heap.size wr).drew
        have hcall := ih x y hsz _ _ wr.drew (Rx.st Dw) (Ry.st Dw) gx gy
        have BP2 : Below n w wr.drew := bdN BP2 1
        have SP2 := SP2.nx Dw
        have SQ2 := SQ2.nx Dw
        have RP2 := RP2.st Dw
        have RQ2 := RQ2.st Dw
        have hnw : n < wr.drew.heap.size := SP2.2
        have hbA : bA < wr.drew.heap.size := Nat.lt_of_lt_of_le hbA Dw.size
        have hbB : bB < wr.drew.heap.size := Nat.lt_of_lt_of_le hbB Dw.size
        have i10 := SP2.cell 10
        have j10 := SQ2.cell 10
        obtain ⟨zx, hzx⟩ : ∃ zx, x.ord numQ y = zx := ⟨_, rfl⟩
        rw [hzx] at hcall hTi
        replace hTi := Lib.hid hTi
        clear hzx Dw
        refine AnyV.regionQ 11 12 (fun w' => w'.cell? ⟨n, 10, none⟩ = some (.slice (some ⟨bA, oA, none⟩) p.l.length lcp) ∧ w'.cell? ⟨n + 1, 10, none⟩ = some (.slice (some ⟨bB, oB, none⟩) q.l.length lcq) ∧ w'.rangeAt bA (oA + i * 11) xs ∧ w'.rangeAt bB (oB + i * 11) ys) rfl (by kernel_rfl) (by kernel_rfl) (by repeat (first | refine quiet_then ?_ | refine quiet_block ?_ | exact quiet_body)) ⟨i10, j10, cx, cy⟩ (fun Q hQK hq hns hHeld => ?_)
        generalize wr.drew = w6 at *
        refine AnyV.next (i := 0) (v := ?_) hq hns hHeld rfl rfl (by kernel_rfl) (Or.inl ⟨by rfl, ?_⟩) ?_
        rotate_left
        · intro w' hSw; (try dsimp only at hSw); go_simp <;> with_reducible rfl
        try simp only [List.setIfInBounds_toArray, List.set_cons_zero, List.set_cons_succ]
        refine AnyV.next (i := 1) (v := ?_) hq hns hHeld rfl rfl (by kernel_rfl) (Or.inl ⟨by rfl, ?_⟩) ?_
        rotate_left
        · intro w' hSw; (try dsimp only at hSw); go_simp <;> with_reducible rfl
        try simp only [List.setIfInBounds_toArray, List.set_cons_zero, List.set_cons_succ]
        refine AnyV.next (i := 2) (v := ?_) hq hns hHeld rfl rfl (by kernel_rfl) (Or.inl ⟨by rfl, ?_⟩) ?_
        rotate_left
        · intro w' hSw; (try dsimp only at hSw); go_simp <;> with_reducible rfl
        try simp only [List.setIfInBounds_toArray, List.set_cons_zero, List.set_cons_succ]
        refine AnyV.next (i := 3) (v := ?_) hq hns hHeld rfl rfl (by kernel_rfl) (Or.inl ⟨by rfl, ?_⟩) ?_
        rotate_left
        · intro w' hSw; (try dsimp only at hSw); go_simp <;> with_reducible rfl
        try simp only [List.setIfInBounds_toArray, List.set_cons_zero, List.set_cons_succ]
        refine AnyV.next (i := 4) (v := .agg xs.toArray) hq hns hHeld rfl rfl (by kernel_rfl) (yieldsIf_load_mid (by rfl) 30 (.tmp 86) rfl bA (oA + i * 11) rfl xs _ (fun w' h => h.2.2.1) Tryz.underlying30 rfl (infoD.trans (by rw [xl]))) ?_
        try simp only [List.setIfInBounds_toArray, List.set_cons_zero, List.set_cons_succ]
        refine AnyV.next (i := 5) (v := ?_) hq hns hHeld rfl rfl (by kernel_rfl) (Or.inl ⟨by rfl, ?_⟩) ?_
        rotate_left
        · intro w' hSw; (try dsimp only at hSw); go_simp <;> with_reducible rfl
        try simp only [List.setIfInBounds_toArray, List.set_cons_zero, List.set_cons_succ]
        refine AnyV.next (i := 6) (v := ?_) hq hns hHeld rfl rfl (by kernel_rfl) (Or.inl ⟨by rfl, ?_⟩) ?_
        rotate_left
        · intro w' hSw; (try dsimp only at hSw); go_simp <;> with_reducible rfl
        try simp only [List.setIfInBounds_toArray, List.set_cons_zero, List.set_cons_succ]
        refine AnyV.next (i := 7) (v := ?_) hq hns hHeld rfl rfl (by kernel_rfl) (Or.inl ⟨by rfl, ?_⟩) ?_
        rotate_left
        · intro w' hSw; (try dsimp only at hSw); go_simp <;> with_reducible rfl
        try simp only [List.setIfInBounds_toArray, List.set_cons_zero, List.set_cons_succ]
        refine AnyV.next (i := 8) (v := ?_) hq hns hHeld rfl rfl (by kernel_rfl) (Or.inl ⟨by rfl, ?_⟩) ?_
        rotate_left
        · intro w' hSw; (try dsimp only at hSw); go_simp <;> with_reducible rfl
        try simp only [List.setIfInBounds_toArray, List.set_cons_zero, List.set_cons_succ]
        refine AnyV.next (i := 9) (v := .agg ys.toArray) hq hns hHeld rfl rfl (by kernel_rfl) (yieldsIf_load_mid (by rfl) 30 (.tmp 91) rfl bB (oB + i * 11) rfl ys _ (fun w' h => h.2.2.2) Tryz.underlying30 rfl (infoD.trans (by rw [yl]))) ?_
        try simp only [List.setIfInBounds_toArray, List.set_cons_zero, List.set_cons_succ]
        refine AnyV.one 10 (by kernel_rfl) rfl (fun K hK => ?_)
        go_simp
        refine hcall.mono ?_; rintro e w7 ⟨rfl, B7⟩
        go_wp2_with fail
        refine hK.out _ _ (.inr ⟨(SP2.nx B7).cell 10, (SQ2.nx B7).cell 10, fun j u hj => (B7.cell (p := ⟨bA, oA + i * 11 + j, none⟩) hbA).trans (cx j u hj), fun j u hj => (B7.cell (p := ⟨bB, oB + i * 11 + j, none⟩) hbB).trans (cy j u hj)⟩) (fun _ => ?_)
        clear hK K
        try simp only [List.setIfInBounds_toArray, List.set_cons_zero, List.set_cons_succ]
        refine AnyV.one 11 (by kernel_rfl) rfl (fun K hK => ?_)
        go_simp
        refine hK.out _ _ (.inl (by decide)) (fun _ => ?_)
        clear hK K
        try simp only [List.setIfInBounds_toArray, List.set_cons_zero, List.set_cons_succ]
        refine AnyV.done (by kernel_rfl) (hQK.out _ _ ?_)
        clear hQK hq hns hHeld
        have BP := BP2.trans (B7.mono (Nat.le_of_lt hnw))
        have SP := SP2.nx B7
        have SQ := SQ2.nx B7
        have RP := RP2.st B7
        have RQ_ := RQ2.st B7
        clear i10 j10 cx cy Rx Ry SP2 SQ2 RP2 RQ2 BP2 B7 hcall
        by_cases hz : zx = 0
        rotate_left
        · have t6 : (zx != 0) = true := bne_iff_ne.2 hz
          have hf : Hid (T = zx) := Lib.hid (by rw [← hTi.out, if_pos hz])
          clear hTi hz
          go_wp2_with fail
          go_ret
          exact ⟨by rw [hf.out]; rfl, by rw [hn]; exact BP⟩
        have t6 : (zx != 0) = false := by rw [hz]; rfl
        have hTn : Hid (ordL numQ (p.l.drop (i + 1)) (q.l.drop (i + 1)) = T) := Lib.hid (by rw [← hTi.out, if_neg (by simp [hz])])
        clear hz hTi
        go_wp2_with fail
        go_roundg (p.l.length - (i + 1))
        case measure => omega
        case rel => exact ⟨i + 1, by go_num, by omega, rfl, hTn, SP, SQ, RP, RQ_, BP⟩
      · obtain rfl : i = p.l.length := by omega
        have hf : Hid (T = 0) := Lib.hid (by rw [← hTi.out, List.drop_length, ordL])
        clear hTi RP2 RQ2 hgk hil
        generalize p.l.length = lm at *
        go_wp2_with fail
        go_ret
        exact ⟨by rw [hf.out]; rfl, by rw [hn]; exact BP2⟩
theorem rord_any {a b : Dat} {va vb : Value} {w : World} (h1 : RD w w.heap.size a va) (h2 : RD w w.heap.size b vb) (ga : a.Good vU) (gb : b.Good vU) :
    Calls Tryz.prog 72 #[va, vb] w fun e w' => e = .returned (.int .i64 (a.ord numQ b)) ∧ Below w.heap.size w w' := rord_go _ a b (Nat.le_refl _) va vb w h1 h2 ga gb
end Go.Proofs.YtilhnjecnhpmlaaGreatDoor
