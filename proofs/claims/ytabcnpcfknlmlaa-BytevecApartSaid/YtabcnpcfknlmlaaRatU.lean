/- Walks: whole, Int, own, fit of exact; Zero of the reference. -/
import Derived.Test.YtabcnpcfknlmlaaRatT
namespace Go.Proofs.Ytabcnpcfknlmlaa
open Go.RowKit

def sgn (neg : Bool) (k : Nat) : Int := if neg = true then -(k : Int) else (k : Int)
theorem sgn_true (k : Nat) : sgn true k = -(k : Int) := by unfold sgn; rw [if_pos rfl]
theorem sgn_false (k : Nat) : sgn false k = (k : Int) := by unfold sgn; rw [if_neg (by simp)]
theorem whole_val {neg : Bool} {a : List Nat} : ratN neg (val a) (val [1]) = ((sgn neg (val a) : Int) : Rat) := by rw [val_one]; exact ratN_whole neg (val a)


set_option maxHeartbeats 1000000 in
theorem whole_any (neg : Bool) (A : Option Addr) (c n : Nat) (a : List Nat) (w : World) (hn : n = a.length) (ha : RW w w.heap.size A c a) (na : Nrm a) (hla : a.length ≤ 15000) :
    Calls Try.prog 51 #[.bool neg, .slice A n c] w (RetR w ((sgn neg (val a) : Int) : Rat)) := by
  subst hn
  have B1 := bal w (.cells #[.bool false, .slice none 0 0, .slice none 0 0] 25)
  have s1 := SB.new w [.bool false, .slice none 0 0, .slice none 0 0] 25
  have z1 : (w.alloc (.cells #[.bool false, .slice none 0 0, .slice none 0 0] 25)).heap.size = w.heap.size + 1 := by simp
  have B2 := bal (w.alloc (.cells #[.bool false, .slice none 0 0, .slice none 0 0] 25)) (.cells #[.int .u32 (1 : Nat)] 53)
  have r1 := RW.one (w.alloc (.cells #[.bool false, .slice none 0 0, .slice none 0 0] 25)) 53 (show 1 < 4294967296 by omega)
  rw [z1] at r1
  have hR := rat_any neg A (some ⟨w.heap.size + 1, 0, none⟩) c 1 a.length 1 a [1] _ rfl rfl (st ha (bt B1 B2)) (r1.more (by simp)) na (by rw [← digs_one1]; exact Nrm_digs _) (by rw [val_one]; omega) hla (by simp)
  rw [whole_val] at hR
  generalize ((sgn neg (val a) : Int) : Rat) = q at *
  have s2 := s1.nx B2
  go_enter Try.func51, Try.ntmps51
  go_wp2_with fail
  refine hR.mono ?_; rintro e w4 ⟨A4, c4, A5, c5, rfl, O4, O5, B4⟩
  have s4 := s2.nx B4
  have m0 := s4.cell 0
  have m1 := s4.cell 1
  have m2 := s4.cell 2
  have f0 := s4.frozen 0
  have f1 := s4.frozen 1
  have f2 := s4.frozen 2
  have hb : w.heap.size < ((w.alloc (.cells #[.bool false, .slice none 0 0, .slice none 0 0] 25)).alloc (.cells #[.int .u32 (1 : Nat)] 53)).heap.size := by simp <;> omega
  have s6 := s4.put3 (.bool (qn q)) (.slice A4 (digs (qt q)).length c4) (.slice A5 (digs (qd q)).length c5)
  have B6 := put3_below (b := w.heap.size) (bt (bt B1 B2) B4) (Nat.le_refl _) (.bool (qn q)) (.slice A4 (digs (qt q)).length c4) (.slice A5 (digs (qd q)).length c5)
  have Oa := O4.put3 (b := w.heap.size) hb (.bool (qn q)) (.slice A4 (digs (qt q)).length c4) (.slice A5 (digs (qd q)).length c5)
  have Ob := O5.put3 (b := w.heap.size) hb (.bool (qn q)) (.slice A4 (digs (qt q)).length c4) (.slice A5 (digs (qd q)).length c5)
  have r0 := s6.cell 0
  have r1 := s6.cell 1
  have r2 := s6.cell 2
  unfold wr3 at s6 B6 Oa Ob r0 r1 r2
  go_wp2_with fail
  refine bodyPost_ret (v := (.agg #[.bool (qn q), .slice A4 (digs (qt q)).length c4, .slice A5 (digs (qd q)).length c5])) (by simp [results, r0, r1, r2, go_sem]) rfl ?_
  exact ⟨A4, c4, A5, c5, rfl, Oa.base_le (by omega), Ob.base_le (by omega), B6⟩


/-- an answer: a fraction as it came, of the call's own -/
def RetV (w : World) (s : Bool) (a b : List Nat) (e : Ending) (w' : World) : Prop := ∃ A c D d, e = .returned (.agg #[.bool s, .slice A a.length c, .slice D b.length d]) ∧ OW w' w.heap.size A c a ∧ OW w' w.heap.size D d b ∧ Below w.heap.size w w'


set_option maxHeartbeats 2000000 in
theorem own1_any (v : Value) (s : Bool) (a b : List Nat) (w : World) (hv : VR w w.heap.size v s a b) :
    Calls Try.prog 82 #[v] w (RetV w s a b) := by
  obtain ⟨A, c, D, d, rfl, ra, rb⟩ := hv
  have k0 := S2.new w [.bool s, .slice A a.length c, .slice D b.length d] [.bool false, .slice none 0 0, .slice none 0 0] 25 25 3
  have hC1 := fun w' x => clone_any A c _ a w' rfl x
  have hC2 := fun w' x => clone_any D d _ b w' rfl x
  have hsz : w.heap.size + 1 < ((w.alloc (.cells #[.bool s, .slice A a.length c, .slice D b.length d] 25)).alloc (.cells #[.bool false, .slice none 0 0, .slice none 0 0] 25)).heap.size := k0.2.1.2
  go_enter Try.func82, Try.ntmps82
  go_wp2_with fail
  have k0d := k0.dr
  have k0s := And.intro (k0d.1.cell 0) (And.intro (k0d.1.cell 1) (And.intro (k0d.1.cell 2) (And.intro (k0d.2.1.cell 0) (And.intro (k0d.2.1.frozen 0) (And.intro (k0d.2.1.cell 1) (And.intro (k0d.2.1.frozen 1) (And.intro (k0d.2.1.cell 2) (And.intro (k0d.2.1.frozen 2) (k0d)))))))))
  go_region_held3 (fun w' => w'.cell? ⟨w.heap.size, 0, none⟩ = some (.bool s) ∧ w'.cell? ⟨w.heap.size, 1, none⟩ = some (.slice A a.length c) ∧ w'.cell? ⟨w.heap.size, 2, none⟩ = some (.slice D b.length d) ∧ w'.cell? ⟨w.heap.size + 1, 0, none⟩ = some (cv w' (w.heap.size + 1) 0) ∧ w'.frozen? ⟨w.heap.size + 1, 0, none⟩ = false ∧ w'.cell? ⟨w.heap.size + 1, 1, none⟩ = some (cv w' (w.heap.size + 1) 1) ∧ w'.frozen? ⟨w.heap.size + 1, 1, none⟩ = false ∧ w'.cell? ⟨w.heap.size + 1, 2, none⟩ = some (cv w' (w.heap.size + 1) 2) ∧ w'.frozen? ⟨w.heap.size + 1, 2, none⟩ = false ∧ S2 w w.heap.size [.bool s, .slice A a.length c, .slice D b.length d] 3 w')
    (first
      | with_reducible exact k0s
      | (have s1 := (by assumption : _ ∧ _ ∧ _ ∧ _ ∧ _ ∧ _ ∧ _ ∧ _ ∧ _ ∧ S2 w w.heap.size [.bool s, .slice A a.length c, .slice D b.length d] 3 _).2.2.2.2.2.2.2.2.2.nx BX; have q0_ := s1.1.cell 0; have q1_ := s1.1.cell 1; have q2_ := s1.1.cell 2; have q3_ := s1.2.1.cell 0; have q4_ := s1.2.1.frozen 0; have q5_ := s1.2.1.cell 1; have q6_ := s1.2.1.frozen 1; have q7_ := s1.2.1.cell 2; have q8_ := s1.2.1.frozen 2; with_reducible exact ⟨q0_, q1_, q2_, q3_, q4_, q5_, q6_, q7_, q8_, s1⟩)
      | (have s1 := (by assumption : _ ∧ _ ∧ _ ∧ _ ∧ _ ∧ _ ∧ _ ∧ _ ∧ _ ∧ S2 w w.heap.size [.bool s, .slice A a.length c, .slice D b.length d] 3 _).2.2.2.2.2.2.2.2.2.put (.bool s) (.slice A4 a.length c4) (.slice A5 b.length c5); have q0_ := s1.1.cell 0; have q1_ := s1.1.cell 1; have q2_ := s1.1.cell 2; have q3_ := s1.2.1.cell 0; have q4_ := s1.2.1.frozen 0; have q5_ := s1.2.1.cell 1; have q6_ := s1.2.1.frozen 1; have q7_ := s1.2.1.cell 2; have q8_ := s1.2.1.frozen 2; with_reducible exact ⟨q0_, q1_, q2_, q3_, q4_, q5_, q6_, q7_, q8_, s1⟩))
    (first
      | (go_at_call_of 83 (Value.slice A a.length c); have hh := (by assumption : _ ∧ _ ∧ _ ∧ _ ∧ _ ∧ _ ∧ _ ∧ _ ∧ _ ∧ S2 w w.heap.size [.bool s, .slice A a.length c, .slice D b.length d] 3 _).2.2.2.2.2.2.2.2.2; refine (hC1 _ (st ra hh.2.2)).mono ?_; rintro e w4 ⟨A4, c4, rfl, O4, BX⟩)
      | (go_at_call_of 83 (Value.slice D b.length d); have hh := (by assumption : _ ∧ _ ∧ _ ∧ _ ∧ _ ∧ _ ∧ _ ∧ _ ∧ _ ∧ S2 w w.heap.size [.bool s, .slice A a.length c, .slice D b.length d] 3 _).2.2.2.2.2.2.2.2.2; refine (hC2 _ (st rb hh.2.2)).mono ?_; rintro e w5 ⟨A5, c5, rfl, O5, BX⟩; have kk := hh.nx BX; have B5 := BX; have sz := hh.2.1.2))
  have s6 := kk.2.1.put3 (.bool s) (.slice A4 a.length c4) (.slice A5 b.length c5)
  have B6 := wr3_below (b := w.heap.size + 1) kk.2.2 (by omega) (.bool s) (.slice A4 a.length c4) (.slice A5 b.length c5)
  have Oa := (O4.below B5 (Nat.le_refl _)).put3 (b := w.heap.size + 1) hsz (.bool s) (.slice A4 a.length c4) (.slice A5 b.length c5)
  have Ob := O5.put3 (b := w.heap.size + 1) sz (.bool s) (.slice A4 a.length c4) (.slice A5 b.length c5)
  have r0 := s6.cell 0
  have r1 := s6.cell 1
  have r2 := s6.cell 2
  unfold wr3 at s6 B6 Oa Ob r0 r1 r2
  go_wp2_with fail
  refine bodyPost_ret (v := .agg #[.bool s, .slice A4 a.length c4, .slice A5 b.length c5]) (by simp [results, r0, r1, r2, go_sem]) rfl ?_
  exact ⟨A4, c4, A5, c5, rfl, Oa.base_le (Nat.le_of_lt (Nat.lt_of_succ_lt hsz)), Ob.base_le (by omega), B6⟩


/-- an answer: a number, of the call's own -/
def RetN (w : World) (r i : Rw) (e : Ending) (w' : World) : Prop := ∃ A1 c1 D1 d1 A2 c2 D2 d2, e = .returned (.agg #[.bool r.s, .slice A1 r.a.length c1, .slice D1 r.b.length d1, .bool i.s, .slice A2 i.a.length c2, .slice D2 i.b.length d2]) ∧
  OW w' w.heap.size A1 c1 r.a ∧ OW w' w.heap.size D1 d1 r.b ∧ OW w' w.heap.size A2 c2 i.a ∧ OW w' w.heap.size D2 d2 i.b ∧ Below w.heap.size w w'


set_option maxHeartbeats 4000000 in
theorem own_any (v : Value) (r i : Rw) (w : World) (hv : VN w w.heap.size v r i) :
    Calls Try.prog 72 #[v] w (RetN w r i) := by
  obtain ⟨s1, a1, b1⟩ := r
  obtain ⟨s2, a2, b2⟩ := i
  obtain ⟨A1, c1, D1, d1, A2, c2, D2, d2, rfl, r1, r2, r3, r4⟩ := hv
  dsimp only at r1 r2 r3 r4 ⊢
  have k0 := S2.new w [.bool s1, .slice A1 a1.length c1, .slice D1 b1.length d1, .bool s2, .slice A2 a2.length c2, .slice D2 b2.length d2] [.bool false, .slice none 0 0, .slice none 0 0, .bool false, .slice none 0 0, .slice none 0 0] 27 27 6
  have hsz : w.heap.size + 1 < ((w.alloc (.cells #[.bool s1, .slice A1 a1.length c1, .slice D1 b1.length d1, .bool s2, .slice A2 a2.length c2, .slice D2 b2.length d2] 27)).alloc (.cells #[.bool false, .slice none 0 0, .slice none 0 0, .bool false, .slice none 0 0, .slice none 0 0] 27)).heap.size := k0.2.1.2
  go_enter Try.func72, Try.ntmps72
  go_wp2_with fail
  have k0d := k0.dr
  have k0s := And.intro (k0d.1.cell 0) (And.intro (k0d.1.cell 1) (And.intro (k0d.1.cell 2) (And.intro (k0d.1.cell 3) (And.intro (k0d.1.cell 4) (And.intro (k0d.1.cell 5) (And.intro (k0d.2.1.cell 0) (And.intro (k0d.2.1.frozen 0) (And.intro (k0d.2.1.cell 1) (And.intro (k0d.2.1.frozen 1) (And.intro (k0d.2.1.cell 2) (And.intro (k0d.2.1.frozen 2) (And.intro (k0d.2.1.cell 3) (And.intro (k0d.2.1.frozen 3) (And.intro (k0d.2.1.cell 4) (And.intro (k0d.2.1.frozen 4) (And.intro (k0d.2.1.cell 5) (And.intro (k0d.2.1.frozen 5) (k0d))))))))))))))))))
  go_region_held3 (fun w' => w'.cell? ⟨w.heap.size, 0, none⟩ = some (.bool s1) ∧ w'.cell? ⟨w.heap.size, 1, none⟩ = some (.slice A1 a1.length c1) ∧ w'.cell? ⟨w.heap.size, 2, none⟩ = some (.slice D1 b1.length d1) ∧ w'.cell? ⟨w.heap.size, 3, none⟩ = some (.bool s2) ∧ w'.cell? ⟨w.heap.size, 4, none⟩ = some (.slice A2 a2.length c2) ∧ w'.cell? ⟨w.heap.size, 5, none⟩ = some (.slice D2 b2.length d2) ∧ w'.cell? ⟨w.heap.size + 1, 0, none⟩ = some (cv w' (w.heap.size + 1) 0) ∧ w'.frozen? ⟨w.heap.size + 1, 0, none⟩ = false ∧ w'.cell? ⟨w.heap.size + 1, 1, none⟩ = some (cv w' (w.heap.size + 1) 1) ∧ w'.frozen? ⟨w.heap.size + 1, 1, none⟩ = false ∧ w'.cell? ⟨w.heap.size + 1, 2, none⟩ = some (cv w' (w.heap.size + 1) 2) ∧ w'.frozen? ⟨w.heap.size + 1, 2, none⟩ = false ∧ w'.cell? ⟨w.heap.size + 1, 3, none⟩ = some (cv w' (w.heap.size + 1) 3) ∧ w'.frozen? ⟨w.heap.size + 1, 3, none⟩ = false ∧ w'.cell? ⟨w.heap.size + 1, 4, none⟩ = some (cv w' (w.heap.size + 1) 4) ∧ w'.frozen? ⟨w.heap.size + 1, 4, none⟩ = false ∧ w'.cell? ⟨w.heap.size + 1, 5, none⟩ = some (cv w' (w.heap.size + 1) 5) ∧ w'.frozen? ⟨w.heap.size + 1, 5, none⟩ = false ∧ S2 w w.heap.size [.bool s1, .slice A1 a1.length c1, .slice D1 b1.length d1, .bool s2, .slice A2 a2.length c2, .slice D2 b2.length d2] 6 w')
    (first
      | with_reducible exact k0s
      | (have s1 := (by assumption : _ ∧ _ ∧ _ ∧ _ ∧ _ ∧ _ ∧ _ ∧ _ ∧ _ ∧ _ ∧ _ ∧ _ ∧ _ ∧ _ ∧ _ ∧ _ ∧ _ ∧ _ ∧ S2 w w.heap.size [.bool s1, .slice A1 a1.length c1, .slice D1 b1.length d1, .bool s2, .slice A2 a2.length c2, .slice D2 b2.length d2] 6 _).2.2.2.2.2.2.2.2.2.2.2.2.2.2.2.2.2.2.nx BX; have q0_ := s1.1.cell 0; have q1_ := s1.1.cell 1; have q2_ := s1.1.cell 2; have q3_ := s1.1.cell 3; have q4_ := s1.1.cell 4; have q5_ := s1.1.cell 5; have q6_ := s1.2.1.cell 0; have q7_ := s1.2.1.frozen 0; have q8_ := s1.2.1.cell 1; have q9_ := s1.2.1.frozen 1; have q10_ := s1.2.1.cell 2; have q11_ := s1.2.1.frozen 2; have q12_ := s1.2.1.cell 3; have q13_ := s1.2.1.frozen 3; have q14_ := s1.2.1.cell 4; have q15_ := s1.2.1.frozen 4; have q16_ := s1.2.1.cell 5; have q17_ := s1.2.1.frozen 5; with_reducible exact ⟨q0_, q1_, q2_, q3_, q4_, q5_, q6_, q7_, q8_, q9_, q10_, q11_, q12_, q13_, q14_, q15_, q16_, q17_, s1⟩)
      | (have s1 := (by assumption : _ ∧ _ ∧ _ ∧ _ ∧ _ ∧ _ ∧ _ ∧ _ ∧ _ ∧ _ ∧ _ ∧ _ ∧ _ ∧ _ ∧ _ ∧ _ ∧ _ ∧ _ ∧ S2 w w.heap.size [.bool s1, .slice A1 a1.length c1, .slice D1 b1.length d1, .bool s2, .slice A2 a2.length c2, .slice D2 b2.length d2] 6 _).2.2.2.2.2.2.2.2.2.2.2.2.2.2.2.2.2.2.put6 (.bool s1) (.slice E1 a1.length e1) (.slice F1 b1.length f1) (.bool s2) (.slice E2 a2.length e2) (.slice F2 b2.length f2); have q0_ := s1.1.cell 0; have q1_ := s1.1.cell 1; have q2_ := s1.1.cell 2; have q3_ := s1.1.cell 3; have q4_ := s1.1.cell 4; have q5_ := s1.1.cell 5; have q6_ := s1.2.1.cell 0; have q7_ := s1.2.1.frozen 0; have q8_ := s1.2.1.cell 1; have q9_ := s1.2.1.frozen 1; have q10_ := s1.2.1.cell 2; have q11_ := s1.2.1.frozen 2; have q12_ := s1.2.1.cell 3; have q13_ := s1.2.1.frozen 3; have q14_ := s1.2.1.cell 4; have q15_ := s1.2.1.frozen 4; have q16_ := s1.2.1.cell 5; have q17_ := s1.2.1.frozen 5; with_reducible exact ⟨q0_, q1_, q2_, q3_, q4_, q5_, q6_, q7_, q8_, q9_, q10_, q11_, q12_, q13_, q14_, q15_, q16_, q17_, s1⟩))
    (first
      | (go_at_call_of 82 (Value.agg #[.bool s1, .slice A1 a1.length c1, .slice D1 b1.length d1]); have hh := (by assumption : _ ∧ _ ∧ _ ∧ _ ∧ _ ∧ _ ∧ _ ∧ _ ∧ _ ∧ _ ∧ _ ∧ _ ∧ _ ∧ _ ∧ _ ∧ _ ∧ _ ∧ _ ∧ S2 w w.heap.size [.bool s1, .slice A1 a1.length c1, .slice D1 b1.length d1, .bool s2, .slice A2 a2.length c2, .slice D2 b2.length d2] 6 _).2.2.2.2.2.2.2.2.2.2.2.2.2.2.2.2.2.2; refine (own1_any (.agg #[.bool s1, .slice A1 a1.length c1, .slice D1 b1.length d1]) s1 a1 b1 _ (vrs r1 r2 hh.2.2)).mono ?_; rintro e w4 ⟨E1, e1, F1, f1, rfl, O4, O5, BX⟩)
      | (go_at_call_of 82 (Value.agg #[.bool s2, .slice A2 a2.length c2, .slice D2 b2.length d2]); have hh := (by assumption : _ ∧ _ ∧ _ ∧ _ ∧ _ ∧ _ ∧ _ ∧ _ ∧ _ ∧ _ ∧ _ ∧ _ ∧ _ ∧ _ ∧ _ ∧ _ ∧ _ ∧ _ ∧ S2 w w.heap.size [.bool s1, .slice A1 a1.length c1, .slice D1 b1.length d1, .bool s2, .slice A2 a2.length c2, .slice D2 b2.length d2] 6 _).2.2.2.2.2.2.2.2.2.2.2.2.2.2.2.2.2.2; refine (own1_any (.agg #[.bool s2, .slice A2 a2.length c2, .slice D2 b2.length d2]) s2 a2 b2 _ (vrs r3 r4 hh.2.2)).mono ?_; rintro e w5 ⟨E2, e2, F2, f2, rfl, O6, O7, BX⟩; have kk := hh.nx BX; have B5 := BX; have sz := hh.2.1.2))
  have s6 := kk.2.1.put6 (.bool s1) (.slice E1 a1.length e1) (.slice F1 b1.length f1) (.bool s2) (.slice E2 a2.length e2) (.slice F2 b2.length f2)
  have B6 := wr6_below (b := w.heap.size + 1) kk.2.2 (by omega) (.bool s1) (.slice E1 a1.length e1) (.slice F1 b1.length f1) (.bool s2) (.slice E2 a2.length e2) (.slice F2 b2.length f2)
  have Oa := (O4.below B5 (Nat.le_refl _)).put6 (b := w.heap.size + 1) hsz (.bool s1) (.slice E1 a1.length e1) (.slice F1 b1.length f1) (.bool s2) (.slice E2 a2.length e2) (.slice F2 b2.length f2)
  have Ob := (O5.below B5 (Nat.le_refl _)).put6 (b := w.heap.size + 1) hsz (.bool s1) (.slice E1 a1.length e1) (.slice F1 b1.length f1) (.bool s2) (.slice E2 a2.length e2) (.slice F2 b2.length f2)
  have Oc := O6.put6 (b := w.heap.size + 1) sz (.bool s1) (.slice E1 a1.length e1) (.slice F1 b1.length f1) (.bool s2) (.slice E2 a2.length e2) (.slice F2 b2.length f2)
  have Od := O7.put6 (b := w.heap.size + 1) sz (.bool s1) (.slice E1 a1.length e1) (.slice F1 b1.length f1) (.bool s2) (.slice E2 a2.length e2) (.slice F2 b2.length f2)
  have r0' := s6.cell 0
  have r1' := s6.cell 1
  have r2' := s6.cell 2
  have r3' := s6.cell 3
  have r4' := s6.cell 4
  have r5' := s6.cell 5
  unfold wr6 wr3 at s6 B6 Oa Ob Oc Od r0' r1' r2' r3' r4' r5'
  go_wp2_with fail
  refine bodyPost_ret (v := .agg #[.bool s1, .slice E1 a1.length e1, .slice F1 b1.length f1, .bool s2, .slice E2 a2.length e2, .slice F2 b2.length f2]) (by simp [results, r0', r1', r2', r3', r4', r5', go_sem]) rfl ?_
  have hle := Nat.le_of_lt (Nat.lt_of_succ_lt hsz)
  exact ⟨E1, e1, F1, f1, E2, e2, F2, f2, rfl, Oa.base_le hle, Ob.base_le hle, Oc.base_le (by omega), Od.base_le (by omega), B6⟩

end Go.Proofs.Ytabcnpcfknlmlaa
