/- Walks: List of both sides. -/
import Derived.Test.YtabcnpcfknlmlaaGR
import Derived.Test.YtabcnpcfknlmlaaGT
import Derived.Test.YtabcnpcfknlmlaaGQ
namespace Go.Proofs.Ytabcnpcfknlmlaa
open Go.RowKit

/-- the answers of List -/
def listC (n : Nat) (size : Int) : Bool := decide (1 ≤ size) && (decide (size ≤ 64) && decide (n % size.toNat = 0))
def listE (n : Nat) (size : Int) : Int := if listC n size = true then 0 else 1
def listR (l : List UInt8) (size : Int) (big signed : Bool) : List (Rw × Rw) := if listC l.length size = true then listQ l size.toNat big signed (l.length / size.toNat) else []
theorem list_no {l : List UInt8} {size : Int} (big signed : Bool) (h : listC l.length size = false) : listR l size big signed = [] ∧ listE l.length size = 1 := by
  unfold listR listE; rw [h]; exact ⟨rfl, rfl⟩
theorem list_yes {l : List UInt8} {s k : Nat} (big signed : Bool) (h1 : 1 ≤ s) (h64 : s ≤ 64) (hl : l.length = k * s) : listR l (s : Int) big signed = listQ l s big signed k ∧ listE l.length (s : Int) = 0 := by
  have hc : listC l.length (s : Int) = true := by
    unfold listC
    rw [decide_eq_true (by omega), decide_eq_true (by omega), Int.toNat_natCast, hl, Nat.mul_mod_left]; rfl
  have hd : l.length / s = k := by rw [hl]; exact Nat.mul_div_cancel k (by omega)
  unfold listR listE
  rw [hc, if_pos rfl, if_pos rfl, Int.toNat_natCast, hd]
  exact ⟨rfl, rfl⟩
theorem getQ_at {l : List UInt8} {s i t : Nat} (big signed : Bool) (h1 : 1 ≤ s) (h64 : s ≤ 64) (ht : i * s = t) (hl : t + s ≤ l.length) : getQ l (t : Int) (s : Int) big signed = ((numI l s big signed i).1, (numI l s big signed i).2, 0) := by
  unfold getQ numI
  rw [show inB l.length (t : Int) (s : Int) = true by unfold inB; rw [decide_eq_true_eq]; omega, if_pos rfl, Int.toNat_natCast, Int.toNat_natCast, ht]

set_option maxRecDepth 100000 in
set_option maxHeartbeats 8000000 in
theorem list_any (A : Option Addr) (c : Nat) (l : List UInt8) (size : Int) (big signed : Bool) (w : World) (hU : RB w w.heap.size A c l) (hb : l.length ≤ 1048576) (s0 : -9223372036854775808 ≤ size) (s1 : size ≤ 9223372036854775807) :
    Calls Try.prog 16 #[.slice A l.length c, .int .i64 size, .bool big, .bool signed] w fun e w' => ∃ A' c', e = .returned (.tuple #[.slice A' (listR l size big signed).length c', .int .i64 (listE l.length size)]) ∧ NRd w' (fun b => b < w'.heap.size) A' c' (listR l size big signed) ∧ Below w.heap.size w w' := by
  have bad : listC l.length size = false → ∀ w', w' = w → ∃ A' c', Ending.returned (.tuple #[.slice none 0 0, .int .i64 1]) = .returned (.tuple #[.slice A' (listR l size big signed).length c', .int .i64 (listE l.length size)]) ∧ NRd w' (fun b => b < w'.heap.size) A' c' (listR l size big signed) ∧ Below w.heap.size w w' := fun h w' e => by
    subst e
    rw [(list_no big signed h).1, (list_no big signed h).2]
    exact ⟨none, 0, rfl, RdE.nil _ _ _ _ _ _, Below.refl _ _⟩
  replace bad := Lib.hid bad
  by_cases h1 : size < 1
  · have hc : listC l.length size = false := by unfold listC; rw [decide_eq_false (by omega)]; rfl
    go_enter Try.func16, Try.ntmps16
    go_wp2_with fail
    go_ret2
    exact bad.out hc _ rfl
  by_cases h64 : 64 < size
  · have hc : listC l.length size = false := by unfold listC; rw [decide_eq_false (show ¬ size ≤ 64 by omega)]; simp
    go_enter Try.func16, Try.ntmps16
    go_wp2_with fail
    go_ret2
    exact bad.out hc _ rfl
  obtain ⟨s, rfl⟩ : ∃ s : Nat, size = s := ⟨size.toNat, by omega⟩
  have hs1 : 1 ≤ s := by omega
  have hs64 : s ≤ 64 := by omega
  obtain ⟨r, hr⟩ : ∃ r, l.length % s = r := ⟨_, rfl⟩
  have hrs : r < s := by rw [← hr]; exact Nat.mod_lt _ (by omega)
  have hm0 : (l.length : Int).tmod (s : Int) = (r : Int) := by rw [Int.tmod_eq_emod_of_nonneg (by omega), ← hr]; simp
  have hm1 : (l.length : Int) % (s : Int) = (r : Int) := by rw [← hr]; simp
  have hm2 : IntKind.i64.wrap (r : Int) = (r : Int) := IntWalk.i64_in _ (by omega)
  have hsz : ¬ (s : Int) = 0 := by omega
  by_cases hr0 : r = 0
  · subst hr0
    obtain ⟨k, hk⟩ : ∃ k, l.length / s = k := ⟨_, rfl⟩
    have hlk : l.length = k * s := by
      have := Nat.div_add_mod l.length s
      rw [hr, hk, Nat.mul_comm] at this
      omega
    have hyes := list_yes big signed hs1 hs64 hlk
    rw [hyes.1, hyes.2, listQ_len]
    have hin : ∀ i, i < k → i * s + s ≤ l.length := fun i hi => by
      have : (i + 1) * s ≤ k * s := Nat.mul_le_mul_right s hi
      rw [Nat.add_mul, Nat.one_mul] at this
      omega
    have hkl : k ≤ l.length := by rw [hlk]; exact Nat.le_mul_of_pos_right k hs1
    have hks : ¬ k * s < l.length := by omega
    have hq0 : (l.length : Int).tdiv (s : Int) = (k : Int) := by rw [Int.tdiv_eq_ediv_of_nonneg (by omega), ← hk]; simp
    have hq1 : (l.length : Int) / (s : Int) = (k : Int) := by rw [← hk]; simp
    have hq2 : IntKind.i64.wrap (k : Int) = (k : Int) := IntWalk.i64_in _ (by omega)
    replace hin := Lib.hid hin
    replace hyes := Lib.hid hyes
    replace hlk := Lib.hid hlk
    replace hks := Lib.hid hks
    clear hr hk bad hrs
    go_enter Try.func16, Try.ntmps16
    go_upto_region 5 with fail
    clear hm0 hm1 hm2 hq0 hq1 hq2
    have BB := Below.refl w.heap.size w
    have hN : w.heap.size ≤ w.heap.size := Nat.le_refl _
    have O0 : NRow w w.heap.size none 0 [] := RowE.nil _ _ _ _ _
    generalize hn : w.heap.size = n at *
    have hN : n ≤ w.heap.size := by omega
    go_loopg [10, 11] k (fun gk s10 s11 wx => ∃ (i : Nat) (A7 : Option Addr) (c7 : Nat), s10 = .slice A7 i c7 ∧ s11 = .int .i64 ((i * s : Nat) : Int) ∧ i + gk = k ∧ NRow wx n A7 c7 (listQ l s big signed i) ∧ RB wx n A c l ∧ Below n w wx ∧ n ≤ wx.heap.size)
    case atStart => exact ⟨0, _, _, rfl, by simp, by omega, O0, hU, BB, hN⟩
    case round =>
      clear O0 hU BB hN
      obtain ⟨i, A7, c7, rfl, rfl, hgk, O1, U1, BB, hN⟩ := hrel
      obtain ⟨t, ht⟩ : ∃ t, i * s = t := ⟨_, rfl⟩
      rw [ht]
      by_cases hi : i < k
      · have htl := hin.out i hi
        rw [ht] at htl
        have hg := get_any A c l.length l (t : Int) (s : Int) big signed wr rfl (RM.more U1 hN) (by omega) (by omega) (by omega) (by omega)
        rw [getQ_at big signed hs1 hs64 ht htl] at hg
        have hsu := listQ_succ l s big signed i
        have hlq := listQ_len l s big signed i
        generalize numI l s big signed i = x at *
        replace hsu := Lib.hid hsu
        replace hlq := Lib.hid hlq
        have hiz : (t : Int) < (l.length : Int) := by omega
        have hAw : ∀ b, A7 = some ⟨b, 0, none⟩ → b < wr.heap.size := fun b e => by
          obtain ⟨ls, O, -⟩ := O1
          subst e
          exact O.lt.2
        go_upto_region 7 with fail
        go_wp2_with fail
        refine hg.mono ?_
        clear hg
        rintro e w2 ⟨A1, c1, D1, d1, A2, c2, D2, d2, rfl, o1, o2, o3, o4, B2⟩
        dsimp only at o1 o2 o3 o4 ⊢
        have hRC := (SB.new w2 [.bool false, .slice none 0 0, .slice none 0 0, .bool false, .slice none 0 0, .slice none 0 0] 27).rc (n := 6)
        obtain ⟨w3, hw3⟩ : ∃ w3, w3 = wr6 (w2.alloc (.cells #[.bool false, .slice none 0 0, .slice none 0 0, .bool false, .slice none 0 0, .slice none 0 0] 27)) w2.heap.size (.bool x.1.s) (.slice A1 x.1.a.length c1) (.slice D1 x.1.b.length d1) (.bool x.2.s) (.slice A2 x.2.a.length c2) (.slice D2 x.2.b.length d2) := ⟨_, rfl⟩
        have B3 : Below w2.heap.size w2 w3 := by rw [hw3]; exact wr6_below (bal w2 _) (Nat.le_refl _) (.bool x.1.s) (.slice A1 x.1.a.length c1) (.slice D1 x.1.b.length d1) (.bool x.2.s) (.slice A2 x.2.a.length c2) (.slice D2 x.2.b.length d2)
        have S3 : SB w3 w2.heap.size [.bool x.1.s, .slice A1 x.1.a.length c1, .slice D1 x.1.b.length d1, .bool x.2.s, .slice A2 x.2.a.length c2, .slice D2 x.2.b.length d2] := by rw [hw3]; exact hRC.put6 (.bool x.1.s) (.slice A1 x.1.a.length c1) (.slice D1 x.1.b.length d1) (.bool x.2.s) (.slice A2 x.2.a.length c2) (.slice D2 x.2.b.length d2)
        replace hw3 := Lib.hid hw3
        go_upto_region 8 with (refine wp_st6 rfl (.tmp 12) (.tmp 41) rfl _ rfl _ _ _ _ _ _ rfl hRC rfl rfl rfl rfl rfl rfl ?_; rw [← hw3.out]; clear hw3)
        clear hRC
        have hEl : NE w3 (fun b => b < w3.heap.size ∧ A7 ≠ some ⟨b, 0, none⟩) [.bool x.1.s, .slice A1 x.1.a.length c1, .slice D1 x.1.b.length d1, .bool x.2.s, .slice A2 x.2.a.length c2, .slice D2 x.2.b.length d2] x := by
          have hb : ∀ b, (wr.heap.size ≤ b ∧ b < w2.heap.size) → w3.heap[b]? = w2.heap[b]? := fun b h => B3.block b h.2
          have hP : ∀ b, (wr.heap.size ≤ b ∧ b < w2.heap.size) → (b < w3.heap.size ∧ A7 ≠ some ⟨b, 0, none⟩) := fun b h => ⟨Nat.lt_of_lt_of_le h.2 B3.size, fun e => by have := hAw b e; omega⟩
          exact ⟨A1, c1, D1, d1, A2, c2, D2, d2, rfl, (o1.wq (fun b h1 h2 => ⟨h1, h2⟩)).step hb hP, (o2.wq (fun b h1 h2 => ⟨h1, h2⟩)).step hb hP, (o3.wq (fun b h1 h2 => ⟨h1, h2⟩)).step hb hP, (o4.wq (fun b h1 h2 => ⟨h1, h2⟩)).step hb hP⟩
        clear o1 o2 o3 o4 hAw
        have O3 := (O1.nx NE.steps B2).nx NE.steps B3
        have Bw := (B2.mono hN).trans (B3.mono (Nat.le_trans hN B2.size))
        have hN3 : n ≤ w3.heap.size := Nat.le_trans hN Bw.size
        have U1 : RB w3 n A c l := RM.below U1 Bw
        have BB := BB.trans Bw
        clear B2 B3 Bw hN O1
        have k0 := S3.cell 0; have k1 := S3.cell 1; have k2 := S3.cell 2; have k3 := S3.cell 3; have k4 := S3.cell 4; have k5 := S3.cell 5
        have Ba := bal w3 (.cells #[.bool x.1.s, .slice A1 x.1.a.length c1, .slice D1 x.1.b.length d1, .bool x.2.s, .slice A2 x.2.a.length c2, .slice D2 x.2.b.length d2] 27)
        have S5 := SB.new w3 [.bool x.1.s, .slice A1 x.1.a.length c1, .slice D1 x.1.b.length d1, .bool x.2.s, .slice A2 x.2.a.length c2, .slice D2 x.2.b.length d2] 27
        have hz1 : (w3.alloc (.cells #[.bool x.1.s, .slice A1 x.1.a.length c1, .slice D1 x.1.b.length d1, .bool x.2.s, .slice A2 x.2.a.length c2, .slice D2 x.2.b.length d2] 27)).heap.size = w3.heap.size + 1 := by simp
        have O4 := O3.nx NE.steps Ba
        have hEl := NE.steps _ _ _ (fun b => b < (w3.alloc (.cells #[.bool x.1.s, .slice A1 x.1.a.length c1, .slice D1 x.1.b.length d1, .bool x.2.s, .slice A2 x.2.a.length c2, .slice D2 x.2.b.length d2] 27)).heap.size ∧ A7 ≠ some ⟨b, 0, none⟩) _ _ (fun b h => Ba.block b h.1) (fun b h => ⟨Nat.lt_of_lt_of_le h.1 Ba.size, h.2⟩) hEl
        obtain ⟨ls, O, hl, hx⟩ := O4
        have hll : ls.length = i := hl.trans hlq.out
        have hl2 : ls.length ≤ 2000000 := by omega
        have hx := Lib.hid hx
        have hl := Lib.hid hl
        have hEl := Lib.hid hEl
        replace hll := Lib.hid hll
        have hsz2 : n ≤ (w3.alloc (.cells #[.bool x.1.s, .slice A1 x.1.a.length c1, .slice D1 x.1.b.length d1, .bool x.2.s, .slice A2 x.2.a.length c2, .slice D2 x.2.b.length d2] 27)).heap.size := by rw [hz1]; omega
        go_upto_region 6 with (at_builtin; refine wp_appN _ rfl _ _ rfl n A7 c7 i ls rfl hll.out.symm O w3.heap.size _ ⟨[.bool x.1.s, .slice A1 x.1.a.length c1, .slice D1 x.1.b.length d1, .bool x.2.s, .slice A2 x.2.a.length c2, .slice D2 x.2.b.length d2], rfl, by simp [Value.oneCell']⟩ rfl (fun j u hj => (S5.1 j u hj).1) hl2 hsz2 ?_; intro A4 c4 w7 O2 G2 H2)
        have ON : NRow w7 n A4 c4 (listQ l s big signed i ++ [x]) := RowE.push NE.steps O hl.out hx.out hEl.out O2 G2 H2
        have Bw : Below n w3 w7 := (Ba.mono hN3).trans (RowE.below O G2 hsz2)
        have U1 : RB w7 n A c l := RM.below U1 Bw
        have BB := BB.trans Bw
        have hN : n ≤ w7.heap.size := Nat.le_trans hN3 Bw.size
        rw [← hsu.out] at ON
        clear O O2 G2 H2 S5 S3 Ba Bw hz1 O3 hx hEl hl hll hl2 hsz2 hN3 k0 k1 k2 k3 k4 k5
        have hts : t + s = (i + 1) * s := by rw [Nat.add_mul, Nat.one_mul, ht]
        have hzt : IntKind.i64.wrap ((t : Int) + (s : Int)) = ((t + s : Nat) : Int) := (IntWalk.i64_in _ (by omega)).trans (by omega)
        generalize t + s = t2 at *
        replace hts := Lib.hid hts
        go_wp2_with fail
        go_roundg (k - (i + 1))
        case measure => omega
        case rel => exact ⟨i + 1, A4, c4, by first | rfl | (simp; exact hlq.out), by rw [← hts.out], by omega, ON, U1, BB, hN⟩
      · obtain rfl : i = k := by omega
        have hiz : ¬ (t : Int) < (l.length : Int) := by have := hks.out; rw [ht] at this; omega
        go_wp2_with fail
        go_ret2
        try rw [hn]
        exact ⟨A7, c7, rfl, O1.rd NE.steps, BB⟩
  · have hc : listC l.length (s : Int) = false := by
      unfold listC
      rw [Int.toNat_natCast, decide_eq_false (show ¬ l.length % s = 0 by omega)]; simp
    have hrz : ((r : Int) != 0) = true := by
      have : ¬ (r : Int) = 0 := by omega
      simpa using this
    have hrz2 : ¬ (r : Int) = 0 := by omega
    clear hr hrs
    go_enter Try.func16, Try.ntmps16
    go_wp2_with fail
    go_ret2
    exact bad.out hc _ rfl

set_option maxRecDepth 100000 in
set_option maxHeartbeats 8000000 in
theorem rlist_any (A : Option Addr) (c : Nat) (l : List UInt8) (size : Int) (big signed : Bool) (w : World) (hU : RB w w.heap.size A c l) (hb : l.length ≤ 1048576) (s0 : -9223372036854775808 ≤ size) (s1 : size ≤ 9223372036854775807) :
    Calls Try.prog 17 #[.slice A l.length c, .int .i64 size, .bool big, .bool signed] w fun e w' => ∃ A' c', e = .returned (.tuple #[.slice A' (listR l size big signed).length c', .int .i64 (listE l.length size)]) ∧ NRd w' (fun b => b < w'.heap.size) A' c' (listR l size big signed) ∧ Below w.heap.size w w' := by
  have bad : listC l.length size = false → ∀ w', w' = w → ∃ A' c', Ending.returned (.tuple #[.slice none 0 0, .int .i64 1]) = .returned (.tuple #[.slice A' (listR l size big signed).length c', .int .i64 (listE l.length size)]) ∧ NRd w' (fun b => b < w'.heap.size) A' c' (listR l size big signed) ∧ Below w.heap.size w w' := fun h w' e => by
    subst e
    rw [(list_no big signed h).1, (list_no big signed h).2]
    exact ⟨none, 0, rfl, RdE.nil _ _ _ _ _ _, Below.refl _ _⟩
  replace bad := Lib.hid bad
  by_cases h1 : size < 1
  · have hc : listC l.length size = false := by unfold listC; rw [decide_eq_false (by omega)]; rfl
    go_enter Try.func17, Try.ntmps17
    go_wp2_with fail
    go_ret2
    exact bad.out hc _ rfl
  by_cases h64 : 64 < size
  · have hc : listC l.length size = false := by unfold listC; rw [decide_eq_false (show ¬ size ≤ 64 by omega)]; simp
    go_enter Try.func17, Try.ntmps17
    go_wp2_with fail
    go_ret2
    exact bad.out hc _ rfl
  obtain ⟨s, rfl⟩ : ∃ s : Nat, size = s := ⟨size.toNat, by omega⟩
  have hs1 : 1 ≤ s := by omega
  have hs64 : s ≤ 64 := by omega
  obtain ⟨r, hr⟩ : ∃ r, l.length % s = r := ⟨_, rfl⟩
  have hrs : r < s := by rw [← hr]; exact Nat.mod_lt _ (by omega)
  have hm0 : (l.length : Int).tmod (s : Int) = (r : Int) := by rw [Int.tmod_eq_emod_of_nonneg (by omega), ← hr]; simp
  have hm1 : (l.length : Int) % (s : Int) = (r : Int) := by rw [← hr]; simp
  have hm2 : IntKind.i64.wrap (r : Int) = (r : Int) := IntWalk.i64_in _ (by omega)
  have hsz : ¬ (s : Int) = 0 := by omega
  by_cases hr0 : r = 0
  · subst hr0
    obtain ⟨k, hk⟩ : ∃ k, l.length / s = k := ⟨_, rfl⟩
    have hlk : l.length = k * s := by
      have := Nat.div_add_mod l.length s
      rw [hr, hk, Nat.mul_comm] at this
      omega
    have hyes := list_yes big signed hs1 hs64 hlk
    rw [hyes.1, hyes.2, listQ_len]
    have hin : ∀ i, i < k → i * s + s ≤ l.length := fun i hi => by
      have : (i + 1) * s ≤ k * s := Nat.mul_le_mul_right s hi
      rw [Nat.add_mul, Nat.one_mul] at this
      omega
    have hkl : k ≤ l.length := by rw [hlk]; exact Nat.le_mul_of_pos_right k hs1
    have hks : ¬ k * s < l.length := by omega
    have hq0 : (l.length : Int).tdiv (s : Int) = (k : Int) := by rw [Int.tdiv_eq_ediv_of_nonneg (by omega), ← hk]; simp
    have hq1 : (l.length : Int) / (s : Int) = (k : Int) := by rw [← hk]; simp
    have hq2 : IntKind.i64.wrap (k : Int) = (k : Int) := IntWalk.i64_in _ (by omega)
    replace hin := Lib.hid hin
    replace hyes := Lib.hid hyes
    replace hlk := Lib.hid hlk
    replace hks := Lib.hid hks
    clear hr hk bad hrs
    have BB := bal w (.cells #[] 27)
    have O0 : NRow _ w.heap.size _ 0 [] := RowE.empty 27 6 NE w
    have hU : RB _ w.heap.size A c l := RM.below hU BB
    go_enter Try.func17, Try.ntmps17
    go_upto_region 5 with fail
    clear hm0 hm1 hm2
    obtain ⟨W0, hW0⟩ : ∃ W0, W0 = w.alloc (.cells #[] 27) := ⟨_, rfl⟩
    have hN : w.heap.size ≤ W0.heap.size := by rw [hW0]; simp
    rw [← hW0] at O0 hU BB ⊢
    clear hW0
    generalize hn : w.heap.size = n at *
    go_loopg [10, 11] k (fun gk s10 s11 wx => ∃ (i : Nat) (A7 : Option Addr) (c7 : Nat), s10 = .slice A7 i c7 ∧ s11 = .int .i64 (i : Int) ∧ i + gk = k ∧ NRow wx n A7 c7 (listQ l s big signed i) ∧ RB wx n A c l ∧ Below n w wx ∧ n ≤ wx.heap.size)
    case atStart => exact ⟨0, _, _, rfl, by simp, by omega, O0, hU, BB, hN⟩
    case round =>
      clear O0 hU BB hN
      obtain ⟨i, A7, c7, rfl, rfl, hgk, O1, U1, BB, hN⟩ := hrel
      obtain ⟨t, ht⟩ : ∃ t, i * s = t := ⟨_, rfl⟩
      skip
      by_cases hi : i < k
      · have htl := hin.out i hi
        rw [ht] at htl
        have hg := rget_any A c l.length l (t : Int) (s : Int) big signed wr rfl (RM.more U1 hN) (by omega) (by omega) (by omega) (by omega)
        rw [getQ_at big signed hs1 hs64 ht htl] at hg
        have hsu := listQ_succ l s big signed i
        have hlq := listQ_len l s big signed i
        generalize numI l s big signed i = x at *
        replace hsu := Lib.hid hsu
        replace hlq := Lib.hid hlq
        have hiz : (i : Int) < (k : Int) := by omega
        have hmu : IntKind.i64.wrap ((i : Int) * (s : Int)) = (t : Int) := (IntWalk.i64_in _ (by rw [← Int.natCast_mul, ht]; omega)).trans (by rw [← Int.natCast_mul, ht])
        have hAw : ∀ b, A7 = some ⟨b, 0, none⟩ → b < wr.heap.size := fun b e => by
          obtain ⟨ls, O, -⟩ := O1
          subst e
          exact O.lt.2
        go_upto_region 7 with fail
        go_wp2_with fail
        refine hg.mono ?_
        clear hg
        rintro e w2 ⟨A1, c1, D1, d1, A2, c2, D2, d2, rfl, o1, o2, o3, o4, B2⟩
        dsimp only at o1 o2 o3 o4 ⊢
        have hRC := (SB.new w2 [.bool false, .slice none 0 0, .slice none 0 0, .bool false, .slice none 0 0, .slice none 0 0] 27).rc (n := 6)
        obtain ⟨w3, hw3⟩ : ∃ w3, w3 = wr6 (w2.alloc (.cells #[.bool false, .slice none 0 0, .slice none 0 0, .bool false, .slice none 0 0, .slice none 0 0] 27)) w2.heap.size (.bool x.1.s) (.slice A1 x.1.a.length c1) (.slice D1 x.1.b.length d1) (.bool x.2.s) (.slice A2 x.2.a.length c2) (.slice D2 x.2.b.length d2) := ⟨_, rfl⟩
        have B3 : Below w2.heap.size w2 w3 := by rw [hw3]; exact wr6_below (bal w2 _) (Nat.le_refl _) (.bool x.1.s) (.slice A1 x.1.a.length c1) (.slice D1 x.1.b.length d1) (.bool x.2.s) (.slice A2 x.2.a.length c2) (.slice D2 x.2.b.length d2)
        have S3 : SB w3 w2.heap.size [.bool x.1.s, .slice A1 x.1.a.length c1, .slice D1 x.1.b.length d1, .bool x.2.s, .slice A2 x.2.a.length c2, .slice D2 x.2.b.length d2] := by rw [hw3]; exact hRC.put6 (.bool x.1.s) (.slice A1 x.1.a.length c1) (.slice D1 x.1.b.length d1) (.bool x.2.s) (.slice A2 x.2.a.length c2) (.slice D2 x.2.b.length d2)
        replace hw3 := Lib.hid hw3
        go_upto_region 8 with (refine wp_st6 rfl (.tmp 12) (.tmp 45) rfl _ rfl _ _ _ _ _ _ rfl hRC rfl rfl rfl rfl rfl rfl ?_; rw [← hw3.out]; clear hw3)
        clear hRC
        have hEl : NE w3 (fun b => b < w3.heap.size ∧ A7 ≠ some ⟨b, 0, none⟩) [.bool x.1.s, .slice A1 x.1.a.length c1, .slice D1 x.1.b.length d1, .bool x.2.s, .slice A2 x.2.a.length c2, .slice D2 x.2.b.length d2] x := by
          have hb : ∀ b, (wr.heap.size ≤ b ∧ b < w2.heap.size) → w3.heap[b]? = w2.heap[b]? := fun b h => B3.block b h.2
          have hP : ∀ b, (wr.heap.size ≤ b ∧ b < w2.heap.size) → (b < w3.heap.size ∧ A7 ≠ some ⟨b, 0, none⟩) := fun b h => ⟨Nat.lt_of_lt_of_le h.2 B3.size, fun e => by have := hAw b e; omega⟩
          exact ⟨A1, c1, D1, d1, A2, c2, D2, d2, rfl, (o1.wq (fun b h1 h2 => ⟨h1, h2⟩)).step hb hP, (o2.wq (fun b h1 h2 => ⟨h1, h2⟩)).step hb hP, (o3.wq (fun b h1 h2 => ⟨h1, h2⟩)).step hb hP, (o4.wq (fun b h1 h2 => ⟨h1, h2⟩)).step hb hP⟩
        clear o1 o2 o3 o4 hAw
        have O3 := (O1.nx NE.steps B2).nx NE.steps B3
        have Bw := (B2.mono hN).trans (B3.mono (Nat.le_trans hN B2.size))
        have hN3 : n ≤ w3.heap.size := Nat.le_trans hN Bw.size
        have U1 : RB w3 n A c l := RM.below U1 Bw
        have BB := BB.trans Bw
        clear B2 B3 Bw hN O1
        have k0 := S3.cell 0; have k1 := S3.cell 1; have k2 := S3.cell 2; have k3 := S3.cell 3; have k4 := S3.cell 4; have k5 := S3.cell 5
        have Ba := bal w3 (.cells #[.bool x.1.s, .slice A1 x.1.a.length c1, .slice D1 x.1.b.length d1, .bool x.2.s, .slice A2 x.2.a.length c2, .slice D2 x.2.b.length d2] 27)
        have S5 := SB.new w3 [.bool x.1.s, .slice A1 x.1.a.length c1, .slice D1 x.1.b.length d1, .bool x.2.s, .slice A2 x.2.a.length c2, .slice D2 x.2.b.length d2] 27
        have hz1 : (w3.alloc (.cells #[.bool x.1.s, .slice A1 x.1.a.length c1, .slice D1 x.1.b.length d1, .bool x.2.s, .slice A2 x.2.a.length c2, .slice D2 x.2.b.length d2] 27)).heap.size = w3.heap.size + 1 := by simp
        have O4 := O3.nx NE.steps Ba
        have hEl := NE.steps _ _ _ (fun b => b < (w3.alloc (.cells #[.bool x.1.s, .slice A1 x.1.a.length c1, .slice D1 x.1.b.length d1, .bool x.2.s, .slice A2 x.2.a.length c2, .slice D2 x.2.b.length d2] 27)).heap.size ∧ A7 ≠ some ⟨b, 0, none⟩) _ _ (fun b h => Ba.block b h.1) (fun b h => ⟨Nat.lt_of_lt_of_le h.1 Ba.size, h.2⟩) hEl
        obtain ⟨ls, O, hl, hx⟩ := O4
        have hll : ls.length = i := hl.trans hlq.out
        have hl2 : ls.length ≤ 2000000 := by omega
        have hx := Lib.hid hx
        have hl := Lib.hid hl
        have hEl := Lib.hid hEl
        replace hll := Lib.hid hll
        have hsz2 : n ≤ (w3.alloc (.cells #[.bool x.1.s, .slice A1 x.1.a.length c1, .slice D1 x.1.b.length d1, .bool x.2.s, .slice A2 x.2.a.length c2, .slice D2 x.2.b.length d2] 27)).heap.size := by rw [hz1]; omega
        go_upto_region 6 with (at_builtin; refine wp_appN _ rfl _ _ rfl n A7 c7 i ls rfl hll.out.symm O w3.heap.size _ ⟨[.bool x.1.s, .slice A1 x.1.a.length c1, .slice D1 x.1.b.length d1, .bool x.2.s, .slice A2 x.2.a.length c2, .slice D2 x.2.b.length d2], rfl, by simp [Value.oneCell']⟩ rfl (fun j u hj => (S5.1 j u hj).1) hl2 hsz2 ?_; intro A4 c4 w7 O2 G2 H2)
        have ON : NRow w7 n A4 c4 (listQ l s big signed i ++ [x]) := RowE.push NE.steps O hl.out hx.out hEl.out O2 G2 H2
        have Bw : Below n w3 w7 := (Ba.mono hN3).trans (RowE.below O G2 hsz2)
        have U1 : RB w7 n A c l := RM.below U1 Bw
        have BB := BB.trans Bw
        have hN : n ≤ w7.heap.size := Nat.le_trans hN3 Bw.size
        rw [← hsu.out] at ON
        clear O O2 G2 H2 S5 S3 Ba Bw hz1 O3 hx hEl hl hll hl2 hsz2 hN3 k0 k1 k2 k3 k4 k5
        go_wp2_with fail
        go_roundg (k - (i + 1))
        case measure => omega
        case rel => exact ⟨i + 1, A4, c4, by first | rfl | (simp; exact hlq.out), by simp, by omega, ON, U1, BB, hN⟩
      · obtain rfl : i = k := by omega
        have hiz : ¬ (i : Int) < (i : Int) := by omega
        go_wp2_with fail
        go_ret2
        try rw [hn]
        exact ⟨A7, c7, rfl, O1.rd NE.steps, BB⟩
  · have hc : listC l.length (s : Int) = false := by
      unfold listC
      rw [Int.toNat_natCast, decide_eq_false (show ¬ l.length % s = 0 by omega)]; simp
    have hrz : ((r : Int) != 0) = true := by
      have : ¬ (r : Int) = 0 := by omega
      simpa using this
    have hrz2 : ¬ (r : Int) = 0 := by omega
    clear hr hrs
    go_enter Try.func17, Try.ntmps17
    go_wp2_with fail
    go_ret2
    exact bad.out hc _ rfl

end Go.Proofs.Ytabcnpcfknlmlaa
