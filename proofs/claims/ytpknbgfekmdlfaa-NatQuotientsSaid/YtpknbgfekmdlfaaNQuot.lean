/- The walk of the law NatQuotients. -/
import Derived.Test.YtpknbgfekmdlfaaNRefD
namespace Go.Proofs.Ytpknbgfekmdlfaa
open Go.RowKit

set_option maxRecDepth 100000 in
set_option maxHeartbeats 4000000 in
theorem natQuotients_walk (A : Option Addr) (c : Nat) (a : List Nat) (D : Option Addr) (d : Nat) (b : List Nat) (w : World) (ha : RW w w.heap.size A c a) (hb : RW w w.heap.size D d b) :
    Calls Try.prog 7 #[.slice A a.length c, .slice D b.length d] w fun e w' => e = .returned (.bool true) ∧ Below w.heap.size w w' := by
  have H1 := fun w' h1 h2 => div_any A D c d _ _ a b w' rfl rfl h1 h2
  have H2 := fun w' h1 h2 => rdiv_any A D c d _ _ a b w' rfl rfl h1 h2
  have H3 := fun w' h1 h2 => gcd_any A D c d _ _ a b w' rfl rfl h1 h2
  have H4 := fun w' h1 h2 => rgcd_any A D c d _ _ a b w' rfl rfl h1 h2
  generalize divA a b = r at H1 H2
  obtain ⟨S, R, G⟩ := r
  generalize gcdA a b = r at H3 H4
  obtain ⟨P, E⟩ := r
  have S1 := fun A1 c1 A2 c2 w' h1 h2 => same_b A1 A2 c1 c2 _ _ (digs P) (digs P) w' rfl rfl rfl h1 h2
  have S2 := fun A1 c1 A2 c2 w' h1 h2 => same_b A1 A2 c1 c2 _ _ (digs S) (digs S) w' rfl rfl rfl h1 h2
  have S3 := fun A1 c1 A2 c2 w' h1 h2 => same_b A1 A2 c1 c2 _ _ (digs R) (digs R) w' rfl rfl rfl h1 h2
  have tE : (E == E) = true := beq_self_eq_true E
  have tG : (G == G) = true := beq_self_eq_true G
  go_enter Try.func7, Try.ntmps7
  go_wp2_with fail
  refine (H1 w ha hb).mono ?_; rintro e w1 ⟨A1, c1, A1', c1', rfl, O1, O1', B1⟩
  go_wp2_with fail
  refine (H2 w1 (stp ha B1) (stp hb B1)).mono ?_; rintro e w2 ⟨A2, c2, A2', c2', rfl, O2, O2', B2⟩
  go_wp2_with fail
  refine (H3 w2 (stp ha (bt B1 B2)) (stp hb (bt B1 B2))).mono ?_; rintro e w3 ⟨A3, c3, rfl, O3, B3⟩
  go_wp2_with fail
  refine (H4 w3 (stp ha (bt (bt B1 B2) B3)) (stp hb (bt (bt B1 B2) B3))).mono ?_; rintro e w4 ⟨A4, c4, rfl, O4, B4⟩
  go_wp2_with fail
  refine (awake_any w4).mono ?_; rintro e w5 ⟨rfl, B5⟩
  go_wp2_with fail
  refine (S2 A1 c1 A2 c2 w5 (stp O1.rw (bt (bt (bt B2 B3) B4) B5)) (stp O2.rw (bt (bt B3 B4) B5))).mono ?_; rintro e w6 ⟨rfl, B6⟩
  go_wp2_with fail
  refine (S3 A1' c1' A2' c2' w6 (stp O1'.rw (bt (bt (bt (bt B2 B3) B4) B5) B6)) (stp O2'.rw (bt (bt (bt B3 B4) B5) B6))).mono ?_; rintro e w7 ⟨rfl, B7⟩
  go_wp2_with fail
  refine (S1 A3 c3 A4 c4 w7 (stp O3.rw (bt (bt (bt B4 B5) B6) B7)) (stp O4.rw (bt (bt B5 B6) B7))).mono ?_; rintro e w8 ⟨rfl, B8⟩
  go_wp2_with fail
  go_ret
  exact ⟨rfl, bt (bt (bt (bt (bt (bt (bt B1 B2) B3) B4) B5) B6) B7) B8⟩
end Go.Proofs.Ytpknbgfekmdlfaa
