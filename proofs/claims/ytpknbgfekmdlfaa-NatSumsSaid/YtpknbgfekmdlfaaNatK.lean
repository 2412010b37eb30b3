/- The walk of the law NatSums. -/
import Derived.Test.YtpknbgfekmdlfaaNatJ
namespace Go.Proofs.Ytpknbgfekmdlfaa
open Go.RowKit

set_option maxRecDepth 100000 in
set_option maxHeartbeats 4000000 in
theorem natSums_walk (A : Option Addr) (c : Nat) (a : List Nat) (D : Option Addr) (d : Nat) (b : List Nat) (n : Int) (w : World) (ha : RW w w.heap.size A c a) (hb : RW w w.heap.size D d b) (hn : 0 ≤ n ∧ n ≤ 18446744073709551615) :
    Calls Try.prog 4 #[.slice A a.length c, .slice D b.length d, .int .u64 n] w fun e w' => e = .returned (.bool true) ∧ Below w.heap.size w w' := by
  have hn1 := hn.1
  have hn2 := Lib.hid hn.2
  clear hn
  have hla := ha.big
  have hlb := hb.big
  have hbe1 : Below w.heap.size w (w.alloc (.cells #[] 33)) := (Below.refl _ _).alloc (Nat.le_refl _) _
  go_enter Try.func4, Try.ntmps4
  go_wp2_with (first
    | (at_builtin; refine wp_appW _ rfl (.tmp 20) (.tmp 21) rfl w.heap.size _ _ _ [] rfl rfl (OW.empty w) _ _ _ a rfl rfl _ (ha.step hbe1 (B' := w.heap.size) (Nat.le_refl _)) (by simp; omega) (by simp) ?_; intro A1 c1 w1 g1 g2 g3)
    | (at_builtin; refine wp_appW _ rfl (.tmp 23) (.tmp 24) rfl w1.heap.size _ _ _ [] rfl rfl (OW.empty w1) _ _ _ b rfl rfl _ (((hb.step hbe1 (B' := w.heap.size) (Nat.le_refl _)).below g3).below ((Below.refl _ _).alloc (hbe1.trans g3).size _)) (by simp; omega) (by simp) ?_; intro A2 c2 w2 k1 k2 k3))
  simp only [List.nil_append] at g1 k1
  clear g2 k2
  have hbA : Below w.heap.size w w1 := hbe1.trans g3
  have hbe2 : Below w1.heap.size w1 (w1.alloc (.cells #[] 33)) := (Below.refl _ _).alloc (Nat.le_refl _) _
  have hbB : Below w1.heap.size w1 w2 := hbe2.trans k3
  have X := g1.rw.step hbB hbB.size
  have Y := k1.rw
  have RA := ha.step (hbA.trans (hbB.mono hbA.size)) (Nat.le_trans hbA.size hbB.size)
  have RB := hb.step (hbA.trans (hbB.mono hbA.size)) (Nat.le_trans hbA.size hbB.size)
  have hB2 : Below w.heap.size w w2 := hbA.trans (hbB.mono hbA.size)
  clear g1 g3 k1 k3 hbe1 hbe2 hbA hbB ha hb
  go_wp2_with fail
  have hadd := add_any A1 A2 c1 c2 _ _ a b w2 rfl rfl X Y
  have hradd := fun w' h1 h2 => radd_any A D c d _ _ a b w' rfl rfl h1 h2
  have hsub := fun w' h1 h2 => sub_any A1 A2 c1 c2 _ _ a b w' rfl rfl h1 h2
  have hrsub := fun w' h1 h2 => rsub_any A D c d _ _ a b w' rfl rfl h1 h2
  generalize addA a b = r1 at *
  generalize subA a b = r2 at *
  obtain ⟨N1, e1⟩ := r1
  obtain ⟨N2, e2⟩ := r2
  refine hadd.mono ?_; rintro e w3 ⟨A3, c3, rfl, P, B3⟩
  go_wp2_with fail
  refine (hradd w3 (RA.step B3 B3.size) (RB.step B3 B3.size)).mono ?_; rintro e w4 ⟨A4, c4, rfl, Q, B4⟩
  go_wp2_with fail
  have B34 := B3.trans (B4.mono B3.size)
  have hs34 := Nat.le_trans B3.size B4.size
  refine (hsub w4 (X.step B34 hs34) (Y.step B34 hs34)).mono ?_; rintro e w5 ⟨A5, c5, rfl, S, B5⟩
  go_wp2_with fail
  have B35 := B34.trans (B5.mono hs34)
  have hs35 := Nat.le_trans hs34 B5.size
  refine (hrsub w5 (RA.step B35 hs35) (RB.step B35 hs35)).mono ?_; rintro e w6 ⟨A6, c6, rfl, T, B6⟩
  go_wp2_with fail
  have B36 := B35.trans (B6.mono hs35)
  have hs36 := Nat.le_trans hs35 B6.size
  refine (awake_any w6).mono ?_; rintro e w7 ⟨rfl, B7⟩
  go_wp2_with fail
  have B37 := B36.trans (B7.mono hs36)
  have hs37 := Nat.le_trans hs36 B7.size
  have B47 := (B5.trans (B6.mono B5.size)).trans (B7.mono (Nat.le_trans B5.size B6.size))
  have hs47 := Nat.le_trans (Nat.le_trans B5.size B6.size) B7.size
  have B57 := B6.trans (B7.mono B6.size)
  have P7 := (P.below (B4.trans (B47.mono B4.size)) (Nat.le_refl _))
  have Q7 := Q.rw.step B47 hs47
  have S7 := S.below B57 (Nat.le_refl _)
  have T7 := T.rw.step B7 B7.size
  have X7 := X.step B37 hs37
  have Y7 := Y.step B37 hs37
  have A7 := RA.step B37 hs37
  have D7 := RB.step B37 hs37
  have hle24 : w2.heap.size ≤ w4.heap.size := hs34
  refine (same_eq A3 A4 c3 c4 _ _ (digs N1) w7 rfl rfl (P7.rw) Q7).mono ?_; rintro e w8 ⟨rfl, q1, rfl⟩
  go_wp2_with fail
  refine (same_eq A5 A6 c5 c6 _ _ (digs N2) _ rfl rfl (S7.rw.drewN q1) (T7.drewN q1)).mono ?_; rintro e w8 ⟨rfl, q2, rfl⟩
  go_wp2_with fail
  refine (cmp_any A1 A2 c1 c2 _ _ a b _ rfl rfl (X7.drewN _) (Y7.drewN _)).mono ?_; rintro e w8 ⟨rfl, q3, rfl⟩
  go_wp2_with fail
  refine (rcmp_any A D c d _ _ a b _ rfl rfl (A7.drewN _) (D7.drewN _)).mono ?_; rintro e w8 ⟨rfl, q4, rfl⟩
  go_wp2_with fail
  refine (sound_any A1 c1 _ a _ rfl (X7.drewN _)).mono ?_; rintro e w8 ⟨rfl, rfl⟩
  go_wp2_with fail
  refine (rsound_any A c _ a _ rfl (A7.drewN _)).mono ?_; rintro e w8 ⟨rfl, rfl⟩
  go_wp2_with fail
  refine (of_any n _ hn1 hn2.out).mono ?_; rintro e w8 ⟨A8, c8, rfl, U, B8⟩
  go_wp2_with fail
  refine (rof_any n w8 hn1 hn2.out).mono ?_; rintro e w9 ⟨A9, c9, rfl, V, B9⟩
  have Bq := bdN (Below.refl w7.heap.size w7) (q1 + (q2 + (q3 + q4)))
  have B89 : Below w7.heap.size w7 w9 := (Below.trans (bdN (Below.refl w7.heap.size w7) _) B8).trans (B9.mono B8.size)
  have hs89 : w7.heap.size ≤ w9.heap.size := B89.size
  go_wp2_with fail
  refine (same_eq A8 A9 c8 c9 _ _ (digs n.toNat) w9 rfl rfl (U.rw.step B9 B9.size) V.rw).mono ?_; rintro e w10 ⟨rfl, q5, rfl⟩
  have BQ := bdN B89 q5
  have P9 := P7.below BQ (Nat.le_refl _)
  have S9 := S7.below BQ (Nat.le_refl _)
  have B2Q : Below w2.heap.size w2 (w9.drewN q5) := B37.trans (BQ.mono hs37)
  have X9 := X.below B2Q
  have Y9 := Y.below B2Q
  have RA9' := RA.below B2Q

  have RB9' := RB.below B2Q
  have hB29 : Below w.heap.size w (w9.drewN q5) := hB2.trans ((B37.trans (BQ.mono hs37)).mono hB2.size)
  have hleW : w2.heap.size ≤ (w9.drewN q5).heap.size := B2Q.size
  have RA9 := RA9'.more hleW
  have hB29w : w.heap.size ≤ w2.heap.size := hB2.size
  have hPlt : ∀ g, A3 = some ⟨g, 0, none⟩ → g < w4.heap.size := fun g hg => by subst hg; have h1 := P.lt; have h2 := B4.size; omega
  clear hadd hradd hsub hrsub P Q S T U V P7 Q7 S7 T7 X7 Y7 A7 D7 X Y RA RB B3 B4 B5 B6 B7 B8 B9 B34 B35 B36 B37 B47 B57 Bq B89 BQ hs34 hs35 hs36 hs37 hs47 hs89 hB2 B2Q
  have hlp := P9.big
  have hls := S9.big
  generalize w9.drewN q5 = W at *
  cases hs : soundB a with
  | true =>
    have hbs : Hid (bitsA a = blen (val a)) := by show _ = _; unfold bitsA; rw [hs]; rfl
    have hrs := rsound_any A c _ a W rfl RA9
    rw [hs] at hrs
    clear hs
    go_wp2_with fail
    refine hrs.mono ?_; rintro e w' ⟨rfl, rfl⟩
    go_wp2_with fail
    refine (rsize_any A c _ a W rfl RA9).mono ?_; rintro e w' ⟨rfl, rfl⟩
    rw [← hbs.out]
    -- the loop that writes over p
    go_wp2_with fail
    go_loopw [18] (fun iv wr => ∃ (k : Nat) (o : List Nat), iv = .int .i64 (k : Int) ∧ k ≤ (digs N1).length ∧ OW wr w2.heap.size A3 c3 o ∧ Hid (o.length = (digs N1).length) ∧ OW wr w4.heap.size A5 c5 (digs N2) ∧ Below w2.heap.size W wr) (fun iv _ => ((digs N1).length - intOf iv).toNat)
    case atStart => exact ⟨0, _, rfl, Nat.zero_le _, P9, rfl, S9, Below.refl _ _⟩
    case round =>
      obtain ⟨k, o, rfl, hk, hP, hol, hS, hbw⟩ := hrel
      obtain ⟨wo, rfl⟩ : ∃ wo : World, wo = wr := ⟨_, rfl⟩
      by_cases h0 : k < (digs N1).length
      · have hok : k < o.length := by have := hol.out; omega
        rcases hP.form with ⟨_, _, he⟩ | ⟨g, rfl, hg1, hg2, _⟩
        · rw [he] at hok; simp at hok
        have hoc := hP.cell hok
        have hfz := hP.frozen k
        have hset := hP.set k (show 7 < 4294967296 by omega)
        have hS2 := hS.far (p := ⟨g, k, none⟩) (by
          rintro g2 rfl
          have := hS.lt; have := hPlt g rfl
          intro he; simp only at he; omega) (.int .u32 (7 : Nat))
        have hb2 := hbw.setCell (p := ⟨g, k, none⟩) hg1 (.int .u32 (7 : Nat))
        go_wp2
        go_roundw
        case rel => exact ⟨k + 1, _, by go_num, by omega, hset, by show _ = _; rw [List.length_set]; exact hol.out, hS2, hb2⟩
        case measure => simp [intOf]; omega
      · go_wp2_with fail
        go_loopw [19] (fun iv wr => ∃ (k : Nat) (o : List Nat), iv = .int .i64 (k : Int) ∧ k ≤ (digs N2).length ∧ OW wr w4.heap.size A5 c5 o ∧ Hid (o.length = (digs N2).length) ∧ Below w2.heap.size W wr) (fun iv _ => ((digs N2).length - intOf iv).toNat)
        case atStart => exact ⟨0, _, rfl, Nat.zero_le _, hS, rfl, hbw⟩
        case round =>
          obtain ⟨j, o2, rfl, hj, hP2, hol2, hbw2⟩ := hrel
          obtain ⟨wq, rfl⟩ : ∃ wq : World, wq = wr := ⟨_, rfl⟩
          by_cases h1 : j < (digs N2).length
          · have hok : j < o2.length := by have := hol2.out; omega
            rcases hP2.form with ⟨_, _, he⟩ | ⟨g, rfl, hg1, hg2, _⟩
            · rw [he] at hok; simp at hok
            have hoc := hP2.cell hok
            have hfz := hP2.frozen j
            have hset := hP2.set j (show 7 < 4294967296 by omega)
            have hb2 := hbw2.setCell (p := ⟨g, j, none⟩) (Nat.le_trans hle24 hg1) (.int .u32 (7 : Nat))
            go_wp2
            go_roundw
            case rel => exact ⟨j + 1, _, by go_num, by omega, hset, by show _ = _; rw [List.length_set]; exact hol2.out, hb2⟩
            case measure => simp [intOf]; omega
          · have rx := X9.step hbw2 (Nat.le_trans hleW hbw2.size)
            have ry := Y9.step hbw2 (Nat.le_trans hleW hbw2.size)
            have ra := RA9'.step hbw2 (Nat.le_trans hleW hbw2.size)
            have rb := RB9'.step hbw2 (Nat.le_trans hleW hbw2.size)
            go_wp2_with fail
            refine (bits_any A1 c1 _ a wq rfl rx).mono ?_; rintro e w' ⟨rfl, rfl⟩
            go_wp2_with fail
            refine (same_eq A1 A c1 c _ _ a _ rfl rfl rx ra).mono ?_; rintro e w' ⟨rfl, q, rfl⟩
            go_wp2_with fail
            refine (same_eq A2 D c2 d _ _ b _ rfl rfl (ry.drewN q) (rb.drewN q)).mono ?_; rintro e w' ⟨rfl, q2, rfl⟩
            go_wp2_with fail
            go_ret
            exact ⟨ret_bool (by simp), bdN (hB29.trans (hbw2.mono hB29w)) (q + q2)⟩
  | false =>
    have hbs : Hid (bitsA a = 0) := by show _ = _; unfold bitsA; rw [hs]; rfl
    have hrs := rsound_any A c _ a W rfl RA9
    rw [hs] at hrs
    clear hs
    go_wp2_with fail
    refine hrs.mono ?_; rintro e w' ⟨rfl, rfl⟩
    -- the loop that writes over p
    go_wp2_with fail
    go_loopw [18] (fun iv wr => ∃ (k : Nat) (o : List Nat), iv = .int .i64 (k : Int) ∧ k ≤ (digs N1).length ∧ OW wr w2.heap.size A3 c3 o ∧ Hid (o.length = (digs N1).length) ∧ OW wr w4.heap.size A5 c5 (digs N2) ∧ Below w2.heap.size W wr) (fun iv _ => ((digs N1).length - intOf iv).toNat)
    case atStart => exact ⟨0, _, rfl, Nat.zero_le _, P9, rfl, S9, Below.refl _ _⟩
    case round =>
      obtain ⟨k, o, rfl, hk, hP, hol, hS, hbw⟩ := hrel
      obtain ⟨wo, rfl⟩ : ∃ wo : World, wo = wr := ⟨_, rfl⟩
      by_cases h0 : k < (digs N1).length
      · have hok : k < o.length := by have := hol.out; omega
        rcases hP.form with ⟨_, _, he⟩ | ⟨g, rfl, hg1, hg2, _⟩
        · rw [he] at hok; simp at hok
        have hoc := hP.cell hok
        have hfz := hP.frozen k
        have hset := hP.set k (show 7 < 4294967296 by omega)
        have hS2 := hS.far (p := ⟨g, k, none⟩) (by
          rintro g2 rfl
          have := hS.lt; have := hPlt g rfl
          intro he; simp only at he; omega) (.int .u32 (7 : Nat))
        have hb2 := hbw.setCell (p := ⟨g, k, none⟩) hg1 (.int .u32 (7 : Nat))
        go_wp2
        go_roundw
        case rel => exact ⟨k + 1, _, by go_num, by omega, hset, by show _ = _; rw [List.length_set]; exact hol.out, hS2, hb2⟩
        case measure => simp [intOf]; omega
      · go_wp2_with fail
        go_loopw [19] (fun iv wr => ∃ (k : Nat) (o : List Nat), iv = .int .i64 (k : Int) ∧ k ≤ (digs N2).length ∧ OW wr w4.heap.size A5 c5 o ∧ Hid (o.length = (digs N2).length) ∧ Below w2.heap.size W wr) (fun iv _ => ((digs N2).length - intOf iv).toNat)
        case atStart => exact ⟨0, _, rfl, Nat.zero_le _, hS, rfl, hbw⟩
        case round =>
          obtain ⟨j, o2, rfl, hj, hP2, hol2, hbw2⟩ := hrel
          obtain ⟨wq, rfl⟩ : ∃ wq : World, wq = wr := ⟨_, rfl⟩
          by_cases h1 : j < (digs N2).length
          · have hok : j < o2.length := by have := hol2.out; omega
            rcases hP2.form with ⟨_, _, he⟩ | ⟨g, rfl, hg1, hg2, _⟩
            · rw [he] at hok; simp at hok
            have hoc := hP2.cell hok
            have hfz := hP2.frozen j
            have hset := hP2.set j (show 7 < 4294967296 by omega)
            have hb2 := hbw2.setCell (p := ⟨g, j, none⟩) (Nat.le_trans hle24 hg1) (.int .u32 (7 : Nat))
            go_wp2
            go_roundw
            case rel => exact ⟨j + 1, _, by go_num, by omega, hset, by show _ = _; rw [List.length_set]; exact hol2.out, hb2⟩
            case measure => simp [intOf]; omega
          · have rx := X9.step hbw2 (Nat.le_trans hleW hbw2.size)
            have ry := Y9.step hbw2 (Nat.le_trans hleW hbw2.size)
            have ra := RA9'.step hbw2 (Nat.le_trans hleW hbw2.size)
            have rb := RB9'.step hbw2 (Nat.le_trans hleW hbw2.size)
            go_wp2_with fail
            refine (bits_any A1 c1 _ a wq rfl rx).mono ?_; rintro e w' ⟨rfl, rfl⟩
            go_wp2_with fail
            refine (same_eq A1 A c1 c _ _ a _ rfl rfl rx ra).mono ?_; rintro e w' ⟨rfl, q, rfl⟩
            go_wp2_with fail
            refine (same_eq A2 D c2 d _ _ b _ rfl rfl (ry.drewN q) (rb.drewN q)).mono ?_; rintro e w' ⟨rfl, q2, rfl⟩
            go_wp2_with fail
            go_ret
            exact ⟨ret_bool (by simp [hbs.out]), bdN (hB29.trans (hbw2.mono hB29w)) (q + q2)⟩
end Go.Proofs.Ytpknbgfekmdlfaa
