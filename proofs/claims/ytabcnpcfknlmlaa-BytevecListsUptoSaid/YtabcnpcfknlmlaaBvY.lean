/- Walks: Of of both sides. -/
import Derived.Test.YtabcnpcfknlmlaaBvX
import Derived.Test.YtabcnpcfknlmlaaGR
import Derived.Test.YtabcnpcfknlmlaaGS
namespace Go.Proofs.Ytabcnpcfknlmlaa
open Go.RowKit

/-- the answers of Of -/
def ofR (xs : List (Rw × Rw)) (size : Int) (big signed : Bool) : List UInt8 × Int := if 1 ≤ size ∧ size ≤ 64 then (if 65536 / size.toNat < xs.length then ([], 4) else ofA size.toNat big signed xs) else ([], 1)
theorem ofR_size {xs : List (Rw × Rw)} {size : Int} {big signed : Bool} (h : ¬ (1 ≤ size ∧ size ≤ 64)) : ofR xs size big signed = ([], 1) := by unfold ofR; rw [if_neg h]
theorem ofR_large {xs : List (Rw × Rw)} {s : Nat} {big signed : Bool} (h1 : 1 ≤ s) (h64 : s ≤ 64) (h : 65536 / s < xs.length) : ofR xs (s : Int) big signed = ([], 4) := by
  unfold ofR; rw [if_pos (by omega), Int.toNat_natCast, if_pos h]
theorem ofR_eq {xs : List (Rw × Rw)} {s : Nat} {big signed : Bool} (h1 : 1 ≤ s) (h64 : s ≤ 64) (h : ¬ 65536 / s < xs.length) : ofR xs (s : Int) big signed = ofA s big signed xs := by
  unfold ofR; rw [if_pos (by omega), Int.toNat_natCast, if_neg h]

set_option maxRecDepth 100000 in
set_option maxHeartbeats 8000000 in
theorem ofB_any (A : Option Addr) (c : Nat) (xs : List (Rw × Rw)) (size : Int) (big signed : Bool) (w : World) (hX : NRd w (fun b => b < w.heap.size) A c xs) (hb : xs.length ≤ 1048576) :
    Calls Try.prog 18 #[.slice A xs.length c, .int .i64 size, .bool big, .bool signed] w (RetBE w (ofR xs size big signed)) := by
  by_cases h1 : size < 1
  · rw [ofR_size (by omega)]
    go_enter Try.func18, Try.ntmps18
    go_wp2_with fail
    go_ret2
    exact retBE_nil 1 (Below.refl _ _)
  by_cases h64 : 64 < size
  · rw [ofR_size (by omega)]
    go_enter Try.func18, Try.ntmps18
    go_wp2_with fail
    go_ret2
    exact retBE_nil 1 (Below.refl _ _)
  obtain ⟨s, rfl⟩ : ∃ s : Nat, size = s := ⟨size.toNat, by omega⟩
  have hs1 : 1 ≤ s := by omega
  have hs64 : s ≤ 64 := by omega
  obtain ⟨q, hq⟩ : ∃ q, 65536 / s = q := ⟨_, rfl⟩
  have hq3 : q ≤ 65536 := by rw [← hq]; exact Nat.div_le_self _ _
  have hq0 : (65536 : Int).tdiv (s : Int) = (q : Int) := by rw [Int.tdiv_eq_ediv_of_nonneg (by omega), ← hq]; simp
  have hq1 : (65536 : Int) / (s : Int) = (q : Int) := by rw [← hq]; simp
  have hq2 : IntKind.i64.wrap (q : Int) = (q : Int) := IntWalk.i64_in _ (by omega)
  have hsz : ¬ (s : Int) = 0 := by omega
  by_cases hlg : q < xs.length
  · rw [ofR_large hs1 hs64 (by rw [hq]; exact hlg)]
    have hlz : (q : Int) < (xs.length : Int) := by omega
    clear hq
    go_enter Try.func18, Try.ntmps18
    go_wp2_with fail
    go_ret2
    exact retBE_nil 4 (Below.refl _ _)
  rw [ofR_eq hs1 hs64 (by rw [hq]; exact hlg)]
  have hlz : ¬ (q : Int) < (xs.length : Int) := by omega
  have hok := ofA_ok (s := s) (big := big) (signed := signed) (xs := xs)
  have hbad := fun (k : Nat) (hk : k < xs.length) h (he : errN s big signed xs[k] ≠ 0) => ofA_bad (s := s) (big := big) (signed := signed) (xs := xs) hk h he
  replace hok := Lib.hid hok
  replace hbad := Lib.hid hbad
  generalize ofA s big signed xs = an at *
  clear hq
  go_enter Try.func18, Try.ntmps18
  go_upto_region 7 with fail
  clear hq0 hq1 hq2 hlz
  have BB := Below.refl w.heap.size w
  have O0 : OB w w.heap.size none 0 [] := OM.nil ..
  generalize hn : w.heap.size = n at *
  have hN : n ≤ w.heap.size := by omega
  go_loopg [10, 30] xs.length (fun gk s10 s30 wx => ∃ (i : Nat) (A7 : Option Addr) (c7 : Nat) (o : List UInt8), s10 = .slice A7 o.length c7 ∧ s30 = .int .i64 (i : Int) ∧ i + gk = xs.length ∧ Hid (o = (xs.take i).flatMap (bytN s big signed)) ∧ o.length ≤ i * 64 ∧ OB wx n A7 c7 o ∧ NRd wx (fun b => b < n) A c xs ∧ Hid (∀ j (hj : j < xs.length), j < i → errN s big signed xs[j] = 0) ∧ Below n w wx ∧ n ≤ wx.heap.size)
  case atStart => exact ⟨0, _, _, [], rfl, rfl, by omega, Lib.hid (by simp), by simp, O0, hX, Lib.hid (fun j _ h => by omega), BB, hN⟩
  case round =>
    clear O0 hX BB hN
    obtain ⟨i, A7, c7, o, rfl, rfl, hgk, ho, hol, O1, X1, hno, BB, hN⟩ := hrel
    by_cases hi : i < xs.length
    · have hiz : (i : Int) < (xs.length : Int) := by omega
      obtain ⟨b, off, rfl, hPb, cs, hcl, hco, hcc, hE⟩ := X1.at_ hi
      have hft := flat_take (s := s) (big := big) (signed := signed) hi
      have hbd := hbad.out i hi hno.out
      have hlen := bytN_len (s := s) (big := big) (signed := signed) (x := xs[i])
      have hnx : errN s big signed xs[i] = 0 → ∀ j (hj : j < xs.length), j < i + 1 → errN s big signed xs[j] = 0 := fun h j hj hji => by
        by_cases e : j = i
        · subst e; exact h
        · exact hno.out j hj (by omega)
      replace hnx := Lib.hid hnx
      obtain ⟨x, hx⟩ : ∃ x, xs[i] = x := ⟨_, rfl⟩
      rw [hx] at hE hft hbd hlen hnx
      obtain ⟨cb, er, hoe⟩ : ∃ cb er, oneA s big signed x.1 x.2 = (cb, er) := ⟨_, _, rfl⟩
      have herr : errN s big signed x = er := by unfold errN; rw [hoe]
      have hbyt : bytN s big signed x = cb := by unfold bytN; rw [hoe]
      rw [herr] at hbd hlen hnx
      rw [hbyt] at hft hlen
      clear hx herr hbyt
      replace hft := Lib.hid hft
      replace hbd := Lib.hid hbd
      replace hlen := Lib.hid hlen
      have hV := hE.vn (B := n) (fun b h => h)
      obtain ⟨A1, c1, D1, d1, A2, c2, D2, d2, rfl, -⟩ := hE
      have hon := fun W (h : Below n wr W) => one_any s big signed _ x.1 x.2 W hs1 hs64 (hV.step (B' := W.heap.size) h (Nat.le_trans hN h.size))
      rw [hoe] at hon
      replace hon := Lib.hid hon
      clear hoe hV hcl hco
      have k0 := hcc 0 _ rfl; have k1 := hcc 1 _ rfl; have k2 := hcc 2 _ rfl; have k3 := hcc 3 _ rfl; have k4 := hcc 4 _ rfl; have k5 := hcc 5 _ rfl
      simp only [Nat.add_zero] at k0
      clear hcc
      have hRC := (SB.new wr [.bool false, .slice none 0 0, .slice none 0 0, .bool false, .slice none 0 0, .slice none 0 0] 27).rc (n := 6)
      obtain ⟨w3, hw3⟩ : ∃ w3, w3 = wr6 (wr.alloc (.cells #[.bool false, .slice none 0 0, .slice none 0 0, .bool false, .slice none 0 0, .slice none 0 0] 27)) wr.heap.size (.bool x.1.s) (.slice A1 x.1.a.length c1) (.slice D1 x.1.b.length d1) (.bool x.2.s) (.slice A2 x.2.a.length c2) (.slice D2 x.2.b.length d2) := ⟨_, rfl⟩
      have B3 : Below wr.heap.size wr w3 := by rw [hw3]; exact wr6_below (bal wr _) (Nat.le_refl _) (.bool x.1.s) (.slice A1 x.1.a.length c1) (.slice D1 x.1.b.length d1) (.bool x.2.s) (.slice A2 x.2.a.length c2) (.slice D2 x.2.b.length d2)
      have S3 : SB w3 wr.heap.size [.bool x.1.s, .slice A1 x.1.a.length c1, .slice D1 x.1.b.length d1, .bool x.2.s, .slice A2 x.2.a.length c2, .slice D2 x.2.b.length d2] := by rw [hw3]; exact hRC.put6 (.bool x.1.s) (.slice A1 x.1.a.length c1) (.slice D1 x.1.b.length d1) (.bool x.2.s) (.slice A2 x.2.a.length c2) (.slice D2 x.2.b.length d2)
      replace hw3 := Lib.hid hw3
      go_upto_region 9 with (refine wp_st6 rfl (.tmp 12) (.tmp 33) rfl _ rfl _ _ _ _ _ _ rfl hRC rfl rfl rfl rfl rfl rfl ?_; rw [← hw3.out]; clear hw3)
      clear hRC
      clear k0 k1 k2 k3 k4 k5
      have k0 := S3.cell 0; have k1 := S3.cell 1; have k2 := S3.cell 2; have k3 := S3.cell 3; have k4 := S3.cell 4; have k5 := S3.cell 5
      have O1 := OM.below O1 B3 (Nat.le_refl _)
      have X1 := X1.nx NE.steps (fun b h => Nat.lt_of_lt_of_le h hN) B3
      have Bw := B3.mono hN
      have BB := BB.trans Bw
      have hN := Nat.le_trans hN B3.size
      go_wp2_with fail
      refine (hon.out w3 Bw).mono ?_
      clear hon Bw B3
      rintro e w4 ⟨A9, c9, rfl, O9, B4⟩
      dsimp only at O9 ⊢
      have O1 := OM.below O1 B4 (Nat.le_refl _)
      have X1 := X1.nx NE.steps (fun b h => Nat.lt_of_lt_of_le h hN) B4
      have BB := BB.trans (B4.mono hN)
      have hN := Nat.le_trans hN B4.size
      clear k0 k1 k2 k3 k4 k5 B4 S3
      by_cases her : er = 0
      · subst her
        have hcl := hlen.out rfl
        have hnx2 := Lib.hid (hnx.out rfl)
        clear hnx
        have hlb : o.length + cb.length ≤ 140737488351232 := by omega
        have hol2 : (o ++ cb).length ≤ (i + 1) * 64 := by rw [List.length_append, Nat.add_mul]; omega
        have ho2 : o ++ cb = (xs.take (i + 1)).flatMap (bytN s big signed) := by rw [hft.out, ho.out]
        replace ho2 := Lib.hid ho2
        replace hol2 := Lib.hid hol2
        have O9r := OM.rl O9
        clear hbd hlen hcl hft ho
        go_upto_region 13 with (at_builtin; refine wp_appB _ rfl _ _ rfl n A7 c7 _ o rfl rfl O1 A9 c9 _ cb rfl rfl _ O9r hlb hN ?_; intro A4 c4 w7 O2 G2 B7)
        have X1 := X1.step NE.steps (w' := w7) (fun b h => B7.block b h) (fun _ h => h)
        have BB := BB.trans B7
        have hN := Nat.le_trans hN B7.size
        clear O9 O9r O1 G2 B7 hlb
        go_wp2_with fail
        go_roundg (xs.length - (i + 1))
        case measure => omega
        case rel => exact ⟨i + 1, A4, c4, o ++ cb, by first | rfl | simp, by simp, by omega, ho2, hol2.out, O2, X1, hnx2, BB, hN⟩
      · have hez : (er != 0) = true := by simpa using her
        have hb2 := hbd.out her
        replace hb2 := Lib.hid hb2
        clear hbd hlen hnx hft her
        go_wp2_with fail
        go_ret2
        rw [hb2.out]
        exact retBE_nil er (by rw [hn]; exact BB)
    · obtain rfl : i = xs.length := by omega
      have hiz : ¬ (xs.length : Int) < (xs.length : Int) := by omega
      have hfin := hok.out (fun j hj => hno.out j hj hj)
      have hoo := ho.out
      rw [List.take_length] at hoo
      rw [← hoo] at hfin
      replace hfin := Lib.hid hfin
      clear hoo ho hno hok hbad hiz hgk
      obtain ⟨z, hz⟩ : ∃ z, xs.length = z := ⟨_, rfl⟩
      rw [hz]
      have hiz : ¬ (z : Int) < (z : Int) := by omega
      clear hz
      go_wp2_with fail
      go_ret2
      rw [hfin.out]
      exact ⟨A7, c7, rfl, by rw [hn]; exact O1, by rw [hn]; exact BB⟩

set_option maxRecDepth 100000 in
set_option maxHeartbeats 8000000 in
theorem rofB_any (A : Option Addr) (c : Nat) (xs : List (Rw × Rw)) (size : Int) (big signed : Bool) (w : World) (hX : NRd w (fun b => b < w.heap.size) A c xs) (hb : xs.length ≤ 1048576) :
    Calls Try.prog 19 #[.slice A xs.length c, .int .i64 size, .bool big, .bool signed] w (RetBE w (ofR xs size big signed)) := by
  by_cases h1 : size < 1
  · rw [ofR_size (by omega)]
    go_enter Try.func19, Try.ntmps19
    go_wp2_with fail
    go_ret2
    exact retBE_nil 1 (Below.refl _ _)
  by_cases h64 : 64 < size
  · rw [ofR_size (by omega)]
    go_enter Try.func19, Try.ntmps19
    go_wp2_with fail
    go_ret2
    exact retBE_nil 1 (Below.refl _ _)
  obtain ⟨s, rfl⟩ : ∃ s : Nat, size = s := ⟨size.toNat, by omega⟩
  have hs1 : 1 ≤ s := by omega
  have hs64 : s ≤ 64 := by omega
  obtain ⟨q, hq⟩ : ∃ q, 65536 / s = q := ⟨_, rfl⟩
  have hq3 : q ≤ 65536 := by rw [← hq]; exact Nat.div_le_self _ _
  have hq0 : (65536 : Int).tdiv (s : Int) = (q : Int) := by rw [Int.tdiv_eq_ediv_of_nonneg (by omega), ← hq]; simp
  have hq1 : (65536 : Int) / (s : Int) = (q : Int) := by rw [← hq]; simp
  have hq2 : IntKind.i64.wrap (q : Int) = (q : Int) := IntWalk.i64_in _ (by omega)
  have hsz : ¬ (s : Int) = 0 := by omega
  by_cases hlg : q < xs.length
  · rw [ofR_large hs1 hs64 (by rw [hq]; exact hlg)]
    have hlz : (q : Int) < (xs.length : Int) := by omega
    clear hq
    go_enter Try.func19, Try.ntmps19
    go_wp2_with fail
    go_ret2
    exact retBE_nil 4 (Below.refl _ _)
  rw [ofR_eq hs1 hs64 (by rw [hq]; exact hlg)]
  have hlz : ¬ (q : Int) < (xs.length : Int) := by omega
  have hok := ofA_ok (s := s) (big := big) (signed := signed) (xs := xs)
  have hbad := fun (k : Nat) (hk : k < xs.length) h (he : errN s big signed xs[k] ≠ 0) => ofA_bad (s := s) (big := big) (signed := signed) (xs := xs) hk h he
  replace hok := Lib.hid hok
  replace hbad := Lib.hid hbad
  generalize ofA s big signed xs = an at *
  clear hq
  have BB := bal w (.cells #[] 5)
  have O0 : OB _ w.heap.size _ 0 [] := OB.empty w
  have hX := hX.nx NE.steps (fun b h => h) BB
  go_enter Try.func19, Try.ntmps19
  go_upto_region 7 with fail
  clear hq0 hq1 hq2 hlz
  obtain ⟨W0, hW0⟩ : ∃ W0, W0 = w.alloc (.cells #[] 5) := ⟨_, rfl⟩
  have hN : w.heap.size ≤ W0.heap.size := by rw [hW0]; simp
  rw [← hW0] at O0 hX BB ⊢
  clear hW0
  generalize hn : w.heap.size = n at *
  go_loopg [10, 11] xs.length (fun gk s10 s11 wx => ∃ (i : Nat) (A7 : Option Addr) (c7 : Nat) (o : List UInt8), s10 = .slice A7 o.length c7 ∧ s11 = .int .i64 (i : Int) ∧ i + gk = xs.length ∧ Hid (o = (xs.take i).flatMap (bytN s big signed)) ∧ o.length ≤ i * 64 ∧ OB wx n A7 c7 o ∧ NRd wx (fun b => b < n) A c xs ∧ Hid (∀ j (hj : j < xs.length), j < i → errN s big signed xs[j] = 0) ∧ Below n w wx ∧ n ≤ wx.heap.size)
  case atStart => exact ⟨0, _, _, [], rfl, rfl, by omega, Lib.hid (by simp), by simp, O0, hX, Lib.hid (fun j _ h => by omega), BB, hN⟩
  case round =>
    clear O0 hX BB hN
    obtain ⟨i, A7, c7, o, rfl, rfl, hgk, ho, hol, O1, X1, hno, BB, hN⟩ := hrel
    by_cases hi : i < xs.length
    · have hiz : (i : Int) < (xs.length : Int) := by omega
      obtain ⟨b, off, rfl, hPb, cs, hcl, hco, hcc, hE⟩ := X1.at_ hi
      have hft := flat_take (s := s) (big := big) (signed := signed) hi
      have hbd := hbad.out i hi hno.out
      have hlen := bytN_len (s := s) (big := big) (signed := signed) (x := xs[i])
      have hnx : errN s big signed xs[i] = 0 → ∀ j (hj : j < xs.length), j < i + 1 → errN s big signed xs[j] = 0 := fun h j hj hji => by
        by_cases e : j = i
        · subst e; exact h
        · exact hno.out j hj (by omega)
      replace hnx := Lib.hid hnx
      obtain ⟨x, hx⟩ : ∃ x, xs[i] = x := ⟨_, rfl⟩
      rw [hx] at hE hft hbd hlen hnx
      obtain ⟨cb, er, hoe⟩ : ∃ cb er, oneA s big signed x.1 x.2 = (cb, er) := ⟨_, _, rfl⟩
      have herr : errN s big signed x = er := by unfold errN; rw [hoe]
      have hbyt : bytN s big signed x = cb := by unfold bytN; rw [hoe]
      rw [herr] at hbd hlen hnx
      rw [hbyt] at hft hlen
      clear hx herr hbyt
      replace hft := Lib.hid hft
      replace hbd := Lib.hid hbd
      replace hlen := Lib.hid hlen
      have hV := hE.vn (B := n) (fun b h => h)
      obtain ⟨A1, c1, D1, d1, A2, c2, D2, d2, rfl, -⟩ := hE
      have hon := fun W (h : Below n wr W) => rone_any s big signed _ x.1 x.2 W hs1 hs64 (hV.step (B' := W.heap.size) h (Nat.le_trans hN h.size))
      rw [hoe] at hon
      replace hon := Lib.hid hon
      clear hoe hV hcl hco
      have k0 := hcc 0 _ rfl; have k1 := hcc 1 _ rfl; have k2 := hcc 2 _ rfl; have k3 := hcc 3 _ rfl; have k4 := hcc 4 _ rfl; have k5 := hcc 5 _ rfl
      simp only [Nat.add_zero] at k0
      clear hcc
      go_upto_region 9 with fail
      go_wp2_with fail
      refine (hon.out wr (Below.refl _ _)).mono ?_
      clear hon
      rintro e w4 ⟨A9, c9, rfl, O9, B4⟩
      dsimp only at O9 ⊢
      have O1 := OM.below O1 B4 (Nat.le_refl _)
      have X1 := X1.nx NE.steps (fun b h => Nat.lt_of_lt_of_le h hN) B4
      have BB := BB.trans (B4.mono hN)
      have hN := Nat.le_trans hN B4.size
      clear k0 k1 k2 k3 k4 k5 B4 
      by_cases her : er = 0
      · subst her
        have hcl := hlen.out rfl
        have hnx2 := Lib.hid (hnx.out rfl)
        clear hnx
        have hlb : o.length + cb.length ≤ 140737488351232 := by omega
        have hol2 : (o ++ cb).length ≤ (i + 1) * 64 := by rw [List.length_append, Nat.add_mul]; omega
        have ho2 : o ++ cb = (xs.take (i + 1)).flatMap (bytN s big signed) := by rw [hft.out, ho.out]
        replace ho2 := Lib.hid ho2
        replace hol2 := Lib.hid hol2
        have O9r := OM.rl O9
        clear hbd hlen hcl hft ho
        go_upto_region 8 with (at_builtin; refine wp_appB _ rfl _ _ rfl n A7 c7 _ o rfl rfl O1 A9 c9 _ cb rfl rfl _ O9r hlb hN ?_; intro A4 c4 w7 O2 G2 B7)
        have X1 := X1.step NE.steps (w' := w7) (fun b h => B7.block b h) (fun _ h => h)
        have BB := BB.trans B7
        have hN := Nat.le_trans hN B7.size
        clear O9 O9r O1 G2 B7 hlb
        go_wp2_with fail
        go_roundg (xs.length - (i + 1))
        case measure => omega
        case rel => exact ⟨i + 1, A4, c4, o ++ cb, by first | rfl | simp, by simp, by omega, ho2, hol2.out, O2, X1, hnx2, BB, hN⟩
      · have hez : (er != 0) = true := by simpa using her
        have hb2 := hbd.out her
        replace hb2 := Lib.hid hb2
        clear hbd hlen hnx hft her
        go_wp2_with fail
        go_ret2
        rw [hb2.out]
        exact retBE_nil er (by rw [hn]; exact BB)
    · obtain rfl : i = xs.length := by omega
      have hiz : ¬ (xs.length : Int) < (xs.length : Int) := by omega
      have hfin := hok.out (fun j hj => hno.out j hj hj)
      have hoo := ho.out
      rw [List.take_length] at hoo
      rw [← hoo] at hfin
      replace hfin := Lib.hid hfin
      clear hoo ho hno hok hbad hiz hgk
      obtain ⟨z, hz⟩ : ∃ z, xs.length = z := ⟨_, rfl⟩
      rw [hz]
      have hiz : ¬ (z : Int) < (z : Int) := by omega
      clear hz
      go_wp2_with fail
      go_ret2
      rw [hfin.out]
      exact ⟨A7, c7, rfl, by rw [hn]; exact O1, by rw [hn]; exact BB⟩

end Go.Proofs.Ytabcnpcfknlmlaa
