/- Walk: ListsStable. -/
import Derived.Test.YtilhnjecnhpmlaaDoorGX
import Derived.Test.YtilhnjecnhpmlaaDoorGZ
namespace Go.Proofs.YtilhnjecnhpmlaaDoor
open Go.RowKit

theorem RDP.two {w : World} {P : Nat → Prop} {d : Dat} {cs : List Value} (h : RDP w P d (.agg cs.toArray)) : cs[1]? = some (.int .i64 d.n) := by
  cases d
  rw [RDP] at h
  obtain ⟨A1, c1, D1, d1, A2, c2, D2, d2, R, rc, L, lc, e, -⟩ := h
  have e := congrArg Array.toList (Value.agg.inj e)
  simp only at e
  rw [e]
  rfl
theorem charD_n (n : Int) : (charD n).n = n := rfl
/-- a pair of characters as it lies in memory -/
theorem pair_chars {w : World} {P : Nat → Prop} {a b : Int} {v : Value} (h : RDP w P (pairD (charD a) (charD b)) v) : ∃ A1 c1 D1 d1 A2 c2 D2 d2 R rc b' off lc,
    v = .agg #[.int .i64 8, .int .i64 0, .bool false, .slice A1 0 c1, .slice D1 0 d1, .bool false, .slice A2 0 c2, .slice D2 0 d2, .string ByteArray.empty, .slice R 0 rc, .slice (some ⟨b', off, none⟩) 2 lc] ∧ P b' ∧ 2 ≤ lc ∧
      w.cell? ⟨b', off + 1, none⟩ = some (.int .i64 a) ∧ w.cell? ⟨b', off + 12, none⟩ = some (.int .i64 b) := by
  obtain ⟨A1, c1, D1, d1, A2, c2, D2, d2, R, rc, b', off, lc, e, hPb, hlc, cx, cy, lx, ly, ox, Rx, Ry, kx, ky⟩ := pairD_view h
  exact ⟨A1, c1, D1, d1, A2, c2, D2, d2, R, rc, b', off, lc, e, hPb, hlc, kx 1 _ (by rw [Rx.two, charD_n]), by have := ky 1 _ (by rw [Ry.two, charD_n]); simpa [Nat.add_assoc] using this⟩

set_option maxRecDepth 100000 in
set_option maxHeartbeats 16000000 in
theorem stable_walk (A : Option Addr) (c : Nat) (u : List UInt8) (w : World) (hU : RB w w.heap.size A c u) (hT : Tabs w) :
    Calls Tryd.prog 6 #[.slice A u.length c] w fun e w' => e = .returned (.bool true) ∧ Below w.heap.size w w' := by
  have hlc := hU.1
  have hub := hU.2.1
  have K0 : KRow _ w.heap.size _ 0 u 0 := ⟨[], OK.empty 31 11 Subtype.val w, rfl, fun i h => by omega⟩
  have BB := bal w (.cells #[] 31)
  have U0 : RB _ w.heap.size A c u := RL.below hU BB
  go_enter Tryd.func6, Tryd.ntmps6
  go_upto_region 3 with fail
  obtain ⟨W0, hW0⟩ : ∃ W0, W0 = w.alloc (.cells #[] 31) := ⟨_, rfl⟩
  have hN : w.heap.size + 1 ≤ W0.heap.size := by rw [hW0]; simp
  rw [← hW0] at K0 U0 BB ⊢
  clear hW0 hU
  generalize hn : w.heap.size = n at *
  obtain ⟨m, hm⟩ : ∃ m, min u.length 250 = m := ⟨_, rfl⟩
  have hm1 : m ≤ u.length ∧ m ≤ 250 ∧ (m = u.length ∨ m = 250) := by omega
  clear hm
  go_loopg [3, 4] m (fun gk s3 s4 wx => ∃ (i : Nat) (A3 : Option Addr) (c3 : Nat), s3 = .slice A3 i c3 ∧ s4 = .int .i64 (i : Int) ∧ i + gk = m ∧ KRow wx n A3 c3 u i ∧ RB wx n A c u ∧ Below n w wx ∧ n + 1 ≤ wx.heap.size)
  case atStart => exact ⟨0, _, _, rfl, rfl, by omega, K0, U0, BB, hN⟩
  case round =>
    clear K0 U0 BB hN
    obtain ⟨i, A3, c3, rfl, rfl, hgk, K1, U1, BB, hN⟩ := hrel
    by_cases hi : i < m
    · have hiz : (i : Int) < (u.length : Int) := by omega
      have hi2 : (i : Int) < 250 := by omega
      obtain ⟨b, off, rfl, hb, hc⟩ := U1.2.2 (by omega)
      obtain ⟨x, hx⟩ : ∃ x, (u.getD i 0).toNat = x := ⟨_, rfl⟩
      have hcx : wr.cell? ⟨b, off + i, none⟩ = some (.int .u8 (x : Int)) := by rw [← hx]; exact hc i (u.getD i 0) (b_get? (by omega))
      clear hc
      obtain ⟨y, hy⟩ : ∃ y, x % 5 = y := ⟨_, rfl⟩
      have hy0 : (x : Int).tmod 5 = (y : Int) := by rw [Int.tmod_eq_emod_of_nonneg (by omega)]; omega
      have hy1 : (x : Int) % 5 = (y : Int) := by omega
      have hy2 : IntKind.u8.wrap (y : Int) = (y : Int) := IntWalk.u8_in _ (by omega)
      have hy3 : IntKind.i64.wrap (y : Int) = (y : Int) := IntWalk.i64_in _ (by omega)
      replace hx := Lib.hid hx
      replace hy := Lib.hid hy
      have Ba := bal wr (.cells #[.int .i64 4, .int .i64 (y : Int), .bool false, .slice none 0 0, .slice none 0 0, .bool false, .slice none 0 0, .slice none 0 0, .string { data := #[] }, .slice none 0 0, .slice none 0 0, .int .i64 4, .int .i64 (i : Int), .bool false, .slice none 0 0, .slice none 0 0, .bool false, .slice none 0 0, .slice none 0 0, .string { data := #[] }, .slice none 0 0, .slice none 0 0] 31)
      have Bb := bal (wr.alloc (.cells #[.int .i64 4, .int .i64 (y : Int), .bool false, .slice none 0 0, .slice none 0 0, .bool false, .slice none 0 0, .slice none 0 0, .string { data := #[] }, .slice none 0 0, .slice none 0 0, .int .i64 4, .int .i64 (i : Int), .bool false, .slice none 0 0, .slice none 0 0, .bool false, .slice none 0 0, .slice none 0 0, .string { data := #[] }, .slice none 0 0, .slice none 0 0] 31)) (.cells #[.int .i64 8, .int .i64 0, .bool false, .slice none 0 0, .slice none 0 0, .bool false, .slice none 0 0, .slice none 0 0, .string { data := #[] }, .slice none 0 0, .slice (some ⟨wr.heap.size, 0, none⟩) 2 2] 31)
      have hz1 : (wr.alloc (.cells #[.int .i64 4, .int .i64 (y : Int), .bool false, .slice none 0 0, .slice none 0 0, .bool false, .slice none 0 0, .slice none 0 0, .string { data := #[] }, .slice none 0 0, .slice none 0 0, .int .i64 4, .int .i64 (i : Int), .bool false, .slice none 0 0, .slice none 0 0, .bool false, .slice none 0 0, .slice none 0 0, .string { data := #[] }, .slice none 0 0, .slice none 0 0] 31)).heap.size = wr.heap.size + 1 := by simp
      have S2 := (SB.new wr [.int .i64 4, .int .i64 (y : Int), .bool false, .slice none 0 0, .slice none 0 0, .bool false, .slice none 0 0, .slice none 0 0, .string { data := #[] }, .slice none 0 0, .slice none 0 0, .int .i64 4, .int .i64 (i : Int), .bool false, .slice none 0 0, .slice none 0 0, .bool false, .slice none 0 0, .slice none 0 0, .string { data := #[] }, .slice none 0 0, .slice none 0 0] 31).nx Bb
      have S5 := SB.new (wr.alloc (.cells #[.int .i64 4, .int .i64 (y : Int), .bool false, .slice none 0 0, .slice none 0 0, .bool false, .slice none 0 0, .slice none 0 0, .string { data := #[] }, .slice none 0 0, .slice none 0 0, .int .i64 4, .int .i64 (i : Int), .bool false, .slice none 0 0, .slice none 0 0, .bool false, .slice none 0 0, .slice none 0 0, .string { data := #[] }, .slice none 0 0, .slice none 0 0] 31)) [.int .i64 8, .int .i64 0, .bool false, .slice none 0 0, .slice none 0 0, .bool false, .slice none 0 0, .slice none 0 0, .string { data := #[] }, .slice none 0 0, .slice (some ⟨wr.heap.size, 0, none⟩) 2 2] 31
      rw [hz1] at S5
      have hA : A3 ≠ some ⟨wr.heap.size, 0, none⟩ := fun e => by
        obtain ⟨ls, O, -⟩ := K1
        subst e
        have := O.lt
        omega
      have K2 := (K1.nx Ba).nx Bb
      obtain ⟨ls, O, hl, hit⟩ := K2
      have hit := Lib.hid hit
      have hll : ls.length ≤ 2000000 := by omega
      have hl := Lib.hid hl
      have hsz2 : n ≤ ((wr.alloc (.cells #[.int .i64 4, .int .i64 (y : Int), .bool false, .slice none 0 0, .slice none 0 0, .bool false, .slice none 0 0, .slice none 0 0, .string { data := #[] }, .slice none 0 0, .slice none 0 0, .int .i64 4, .int .i64 (i : Int), .bool false, .slice none 0 0, .slice none 0 0, .bool false, .slice none 0 0, .slice none 0 0, .string { data := #[] }, .slice none 0 0, .slice none 0 0] 31)).alloc (.cells #[.int .i64 8, .int .i64 0, .bool false, .slice none 0 0, .slice none 0 0, .bool false, .slice none 0 0, .slice none 0 0, .string { data := #[] }, .slice none 0 0, .slice (some ⟨wr.heap.size, 0, none⟩) 2 2] 31)).heap.size := by simp; omega
      go_upto_region 4 with (at_builtin; refine wp_appGr _ rfl _ _ rfl n A3 c3 i ls rfl hl.out.symm O (wr.heap.size + 1) _ (pc wr.heap.size) rfl (fun j u hj => (S5.1 j u hj).1) hll hsz2 ?_; intro A4 c4 w7 O2 G2 B2)
      have KN : KRow w7 n A4 c4 u (i + 1) := KRow.push O hl.out hit.out (by omega) hA (by rw [hx.out, hy.out]; exact S2) O2 G2
      have Bw : Below n wr w7 := ((Ba.mono (by omega)).trans (Bb.mono (by omega))).trans B2
      have U1 : RB w7 n _ c u := RL.below U1 Bw
      have BB := BB.trans Bw
      have hN : n + 1 ≤ w7.heap.size := Nat.le_trans hN Bw.size
      clear O O2 G2 B2 S5 S2 Ba Bb Bw hz1 K1 hit hA hcx hl hll hsz2
      go_wp2_with fail
      go_roundg (m - (i + 1))
      case measure => omega
      case rel => exact ⟨i + 1, A4, c4, rfl, by simp, by omega, KN, U1, BB, hN⟩
    · obtain rfl : i = m := by omega
      go_upto_region 3 with fail
      go_cut [20] (fun s20 wx => s20 = .bool false ∧ wr = wx)
      case first =>
        rcases hm1.2.2 with h | h
        · have hiz : ¬ (i : Int) < (u.length : Int) := by omega
          clear h
          go_wp2_with fail
          go_meet
          exact ⟨rfl, rfl⟩
        · rcases (show i < u.length ∨ ¬ i < u.length by omega) with h2 | h2
          · have hiz : (i : Int) < (u.length : Int) := by omega
            have hi2 : ¬ (i : Int) < 250 := by omega
            clear h h2
            go_wp2_with fail
            go_meet
            exact ⟨rfl, rfl⟩
          · have hiz : ¬ (i : Int) < (u.length : Int) := by omega
            clear h h2
            go_wp2_with fail
            go_meet
            exact ⟨rfl, rfl⟩
      case rest =>
      obtain ⟨rfl, rfl⟩ := hcut
      obtain ⟨m, hmi⟩ : ∃ m, m = i := ⟨_, rfl⟩
      rw [← hmi] at K1 hm1 ⊢
      clear hmi hgk hi U1
      obtain ⟨wc, hwc⟩ : ∃ wc, wc = wr := ⟨_, rfl⟩
      subst hwc
      have hm2 : m ≤ 250 := hm1.2.1
      clear hm1 hub hlc
      obtain ⟨P, hP, L3⟩ : ∃ P : Nat → Prop, (∀ b, P b → b < wc.heap.size) ∧ RLs wc P A3 c3 (itemsK u m) :=
        ⟨_, fun b hb => hb.elim (·.2) (·.2), (K1.row hm2).rls (by rw [itemsK_len]; omega)⟩
      obtain ⟨s, h1, h2, h3, h4, h5, h6, f, g, h7, h8⟩ := stable_law u hm2
      clear K1
      have cl := lof_any A3 c3 (itemsK u m) wc P hP L3 (hT.go hn BB)
      rw [itemsK_len, h1] at cl
      have cs := fun W (Q : Nat → Prop) hQ v (R : RDP W Q (joinD (itemsK u m) nilD) v) hT => lsortby_any (joinD (itemsK u m) nilD) v W Q hQ R hT
      rw [h2, h3] at cs
      have ci := fun W (Q : Nat → Prop) hQ v (R : RDP W Q (joinD s nilD) v) hT => litemsAll_any (joinD s nilD) v W Q hQ R hT
      rw [h4, h5] at ci
      rw [h6] at ci
      generalize joinD (itemsK u m) nilD = di at *
      generalize joinD s nilD = ds at *
      replace cs := Lib.hid cs
      replace ci := Lib.hid ci
      replace h6 := Lib.hid h6
      replace h7 := Lib.hid h7
      replace h8 := Lib.hid h8
      clear h1 h2 h3 h4 h5 L3
      generalize hq : wc.heap.size = q at *
      have hN0 : n ≤ q := by omega
      have hN : q ≤ wc.heap.size := by omega
      go_wp2_with fail
      refine cl.mono ?_
      clear cl
      rintro e w1 ⟨v1, rfl, R1, B1⟩
      have BB := BB.trans (B1.mono (by omega))
      have hN := Nat.le_trans hN B1.size
      go_wp2_with fail
      refine (cs.out w1 _ (Out.all hP (by omega)) v1 R1 (hT.go hn BB)).mono ?_
      clear cs
      rintro e w2 ⟨v2, rfl, R2, B2⟩
      have R2 := R2.res (m := q) hN B2.size
      have BB := BB.trans (B2.mono (by omega))
      have hN := Nat.le_trans hN B2.size
      clear R1 B1 B2
      obtain ⟨cs, rfl, cl, co⟩ := R2.agg
      match cs, cl, co with
      | [a0, a1, a2, a3, a4, a5, a6, a7, a8, a9, a10], _, co =>
      have Sg := SB.new w2 [.int .i64 0, .int .i64 0, .bool false, .slice none 0 0, .slice none 0 0, .bool false, .slice none 0 0, .slice none 0 0, .string { data := #[] }, .slice none 0 0, .slice none 0 0] 31
      obtain ⟨v1_, hv1_⟩ : ∃ v1_, v1_ = (w2.alloc (.cells #[.int .i64 0, .int .i64 0, .bool false, .slice none 0 0, .slice none 0 0, .bool false, .slice none 0 0, .slice none 0 0, .string { data := #[] }, .slice none 0 0, .slice none 0 0] 31)).setCells w2.heap.size 0 [a0, a1, a2, a3, a4, a5, a6, a7, a8, a9, a10] := ⟨_, rfl⟩
      have Bv1_ : Below w2.heap.size w2 v1_ := by rw [hv1_]; exact below_cso (bal w2 _) (Nat.le_refl _) 0 [a0, a1, a2, a3, a4, a5, a6, a7, a8, a9, a10]
      have S5 : SB v1_ w2.heap.size [a0, a1, a2, a3, a4, a5, a6, a7, a8, a9, a10] := by rw [hv1_]; exact Sg.cells [a0, a1, a2, a3, a4, a5, a6, a7, a8, a9, a10] rfl
      have hgw2 : q ≤ w2.heap.size := hN
      replace hv1_ := Lib.hid hv1_
      go_upto_region 7 with (refine wp_stD rfl rfl (.tmp 5) (.tmp 41) rfl w2.heap.size rfl [a0, a1, a2, a3, a4, a5, a6, a7, a8, a9, a10] rfl rfl _ Sg rfl co ?_; rw [← hv1_.out]; clear hv1_)
      clear Sg co
      have BB := BB.trans (Bv1_.mono (by omega))
      have R2 := R2.go hP (by omega) Bv1_
      have hN := Nat.le_trans hN Bv1_.size
      clear Bv1_
      have ka_0 := S5.cell 0; have ka_1 := S5.cell 1; have ka_2 := S5.cell 2; have ka_3 := S5.cell 3; have ka_4 := S5.cell 4; have ka_5 := S5.cell 5; have ka_6 := S5.cell 6; have ka_7 := S5.cell 7; have ka_8 := S5.cell 8; have ka_9 := S5.cell 9; have ka_10 := S5.cell 10
      go_wp2_with fail
      refine (ci.out v1_ (Out P q v1_) (Out.all hP (by omega)) _ R2 (hT.go hn BB)).mono ?_
      rintro e v2_ ⟨A1, c1, rfl, L1, E2_⟩
      have L1 := L1.res (m := q) hN E2_.size
      have BB := BB.trans (E2_.mono (by omega))
      have R2 := R2.go hP (by omega) E2_
      have S5 := S5.nx E2_
      have hN := Nat.le_trans hN E2_.size
      clear ka_0 ka_1 ka_2 ka_3 ka_4 ka_5 ka_6 ka_7 ka_8 ka_9 ka_10
      clear ci E2_
      go_upto_region 8 with fail
      go_wp2_with fail
      refine (awake11_any v2_ (hT.go hn BB)).mono ?_
      rintro e v3_ ⟨rfl, E3_⟩
      have BB := BB.trans (E3_.mono (by omega))
      have R2 := R2.go hP (by omega) E3_
      have S5 := S5.nx E3_
      have L1 := L1.go hP (by omega) E3_
      have hN := Nat.le_trans hN E3_.size
      clear E3_ S5 R2
      go_upto_region 11 with fail
      go_loopg [9] m (fun gk s9 wx => ∃ i : Nat, s9 = .int .i64 (i : Int) ∧ i + gk = m ∧ RLs wx (Out P q wx) A1 c1 s ∧ Below n w wx ∧ q ≤ wx.heap.size)
      case atStart => exact ⟨0, rfl, by omega, L1, BB, hN⟩
      case round =>
        clear L1 BB hN
        obtain ⟨i, rfl, hgk, L1, BB, hN⟩ := hrel
        by_cases hi : i < m
        · have hiz : (i : Int) < (m : Int) := by omega
          have his : i < s.length := by rw [h6.out]; exact hi
          obtain ⟨b, off, rfl, hPb, cs, cl, _, Rx, rx⟩ := L1.at_ his
          rw [h7.out i his] at Rx
          obtain ⟨E1, e1, F1, f1, E2, e2, F2, f2, R, rc, b1, off1, lc, e, hPb1, hlc, hca, hcb⟩ := pair_chars Rx
          obtain rfl := congrArg Array.toList (Value.agg.inj e)
          clear e cl
          have k0 := rx 0 _ rfl
          have k10 := rx 10 _ rfl
          simp only [Nat.add_zero] at k0
          clear Rx rx
          have h2l : (2 : Nat) ≤ lc := hlc
          obtain ⟨fi, hfi⟩ : ∃ x, f i = x := ⟨_, rfl⟩
          obtain ⟨gi, hgi⟩ : ∃ x, g i = x := ⟨_, rfl⟩
          rw [hfi] at hca
          rw [hgi] at hcb
          replace hfi := Lib.hid hfi
          replace hgi := Lib.hid hgi
          go_upto_region 15 with fail
          rcases Nat.eq_zero_or_pos i with hi0 | hi0
          · have hz0 : ((i : Int) == 0) = true := by rw [hi0]; rfl
            clear hi0
            go_upto_region 11 with fail
            go_roundg (m - (i + 1))
            case measure => omega
            case rel => exact ⟨i + 1, by simp, by omega, L1, BB, hN⟩
          · have hz0 : ((i : Int) == 0) = false := by
              have : ¬ (i : Int) = 0 := by omega
              simpa using this
            obtain ⟨j, hj⟩ : ∃ j, i = j + 1 := ⟨i - 1, by omega⟩
            have hzj : IntKind.i64.wrap ((i : Int) - 1) = (j : Int) := (IntWalk.i64_in _ (by omega)).trans (by omega)
            have hjm : j < m := by omega
            have hjz : (j : Int) < (m : Int) := by omega
            have hjs : j < s.length := by rw [h6.out]; exact hjm
            have hor := h8.out j (by omega)
            rw [← hj, hfi.out, hgi.out] at hor
            replace hj := Lib.hid hj
            obtain ⟨b2, off2, e2', _, cs2, cl2, _, Ry, ry⟩ := L1.at_ hjs
            simp only [Option.some.injEq, Addr.mk.injEq, and_true] at e2'
            obtain ⟨rfl, rfl⟩ := e2'
            rw [h7.out j hjs] at Ry
            obtain ⟨G1, g1, H1, h1, G2, g2, H2, h2, R', rc', b3, off3, lc', e, hPb3, hlc', hda, hdb⟩ := pair_chars Ry
            obtain rfl := congrArg Array.toList (Value.agg.inj e)
            clear e cl2
            have j10 := ry 10 _ rfl
            clear Ry ry
            obtain ⟨fj, hfj⟩ : ∃ x, f j = x := ⟨_, rfl⟩
            obtain ⟨gj, hgj⟩ : ∃ x, g j = x := ⟨_, rfl⟩
            rw [hfj] at hda hor
            rw [hgj] at hdb hor
            clear hfj hgj hfi hgi
            have hor := Lib.hid hor
            go_upto_region 16 with fail
            go_quiet (fail)
            go_upto_region 17 with fail
            have Dn : ∀ r, Below wr.heap.size wr (wr.drewN r) := fun r => bdN (Below.refl _ _) r
            rcases hor.out with hlt | ⟨heq, hlt⟩

            · have t1 : decide ((fi : Int) < (fj : Int)) = false := decide_eq_false (by omega)
              have t2 : ((fj : Int) == (fi : Int)) = false := by
                have : ¬ (fj : Int) = (fi : Int) := by omega
                simpa using this
              have t1' : decide (fi < fj) = false := decide_eq_false (by omega)
              have t2' : (fj == fi) = false := by
                have : ¬ fj = fi := by omega
                simpa using this
              clear hlt
              go_quiet (fail)
              go_upto_region 11 with fail
              go_roundg (m - (i + 1))
              case measure => omega
              case rel => exact ⟨i + 1, by simp, by omega, L1.go hP (by omega) (Dn _), BB.trans ((Dn _).mono (by omega)), Nat.le_trans hN (Dn _).size⟩
            · subst heq
              have t1 : decide ((fj : Int) < (fj : Int)) = false := decide_eq_false (by omega)
              have t3 : decide ((gi : Int) ≤ (gj : Int)) = false := decide_eq_false (by omega)
              have t1' : decide (fj < fj) = false := decide_eq_false (by omega)
              have t3' : decide (gi ≤ gj) = false := decide_eq_false (by omega)
              clear hlt
              go_quiet (fail)
              go_upto_region 11 with fail
              go_roundg (m - (i + 1))
              case measure => omega
              case rel => exact ⟨i + 1, by simp, by omega, L1.go hP (by omega) (Dn _), BB.trans ((Dn _).mono (by omega)), Nat.le_trans hN (Dn _).size⟩
        · have hiz : ¬ (i : Int) < (m : Int) := by omega
          go_wp2_with fail
          go_ret
          try rw [hn]
          exact ⟨rfl, BB⟩
theorem stable_card (A : Option Addr) (c : Nat) (u : List UInt8) (w : World) (hU : RB w w.heap.size A c u) (hT : Lib.Utf8Tabs (Tryd.lays196_ren.g 3) (Tryd.lays196_ren.g 4) w) :
    Calls Tryd.prog 6 #[.slice A u.length c] w fun e w' => e = .returned (.bool true) ∧ Below w.heap.size w w' := stable_walk A c u w hU hT

end Go.Proofs.YtilhnjecnhpmlaaDoor
