/- Merged texts: NatB, NatC, NatD, NatE, NatF, NatG, NatH, NatI, NatJ, PlainB, NatL, NatM. -/
import Derived.Test.YtbgggepdlkbpoaaGreatDoorGA
import Derived.Test.YtbgggepdlkbpoaaGreatDoorShelf
import Derived.WalkSpells
namespace Go.Proofs.YtbgggepdlkbpoaaGreatDoor
open Go.RowKit

/-- what the order of two lists of one length comes to, at the highest word that differs -/
theorem ord_top {a b : List Nat} (ha : B32 a) (hb : B32 b) {j : Nat} (hj : j < a.length) (hl : a.length = b.length) (hd : a.drop (j + 1) = b.drop (j + 1)) :
    (wd a j < wd b j → cmpN (val a) (val b) = -1) ∧ (wd b j < wd a j → cmpN (val a) (val b) = 1) :=
  ⟨fun h => cmpN_lt (top_lt ha (by omega) h hd.symm hj hl.symm), fun h => cmpN_gt (top_lt hb hj h hd (by omega) hl)⟩
theorem ord_step {a b : List Nat} {j : Nat} (hj : j < a.length) (hl : a.length = b.length) (hd : a.drop (j + 1) = b.drop (j + 1)) (h : wd a j = wd b j) : a.drop j = b.drop j := by
  rw [drop_wd hj, drop_wd (by omega : j < b.length), hd, h]

theorem drw {w : World} (a b : Nat) : ∃ q, (w.drewN a).drewN b = w.drewN q := ⟨_, World.drewN_drewN _ _ _⟩
theorem drw3 {w : World} (a b c : Nat) : ∃ q, ((w.drewN a).drewN b).drewN c = w.drewN q := ⟨_, by rw [World.drewN_drewN, World.drewN_drewN]⟩

set_option maxHeartbeats 1000000 in
theorem order_any (A D : Option Addr) (c d n m : Nat) (a b : List Nat) (w : World) (hn : n = a.length) (hm : m = b.length) (ha : RW w w.heap.size A c a) (hb : RW w w.heap.size D d b) (na : Nrm a) (nb : Nrm b) :
    Calls Tryz.prog 45 #[.slice A n c, .slice D m d] w fun e w' => e = .returned (.int .i64 (cmpN (val a) (val b))) ∧ ∃ q, w' = w.drewN q := by
  subst hn hm
  have hba := ha.big
  have hbb := hb.big
  have ba := ha.b32
  have bb := hb.b32
  by_cases hlen : a.length = b.length
  · have hl1 : ((a.length : Int) != (b.length : Int)) = false := by simp; omega
    have HL := Lib.hid hlen
    have hlt : ¬ a.length < b.length := by omega
    have hgt : ¬ b.length < a.length := by omega
    clear hlen
    go_enter Tryz.func45, Tryz.ntmps45
    go_wp2
    go_loopw [5] (fun i wr => ∃ k : Nat, k ≤ a.length ∧ i = .int .i64 ((k : Int) - 1) ∧ Hid (a.drop k = b.drop k) ∧ ∃ q, wr = w.drewN q) (fun i _ => (intOf i + 1).toNat)
    case atStart => exact ⟨a.length, Nat.le_refl _, rfl, by show _ = _; rw [List.drop_length, HL.out, List.drop_length], 0, rfl⟩
    case round =>
      obtain ⟨k, hk, rfl, hk2, q, rfl⟩ := hrel
      by_cases h0 : 0 < k
      · obtain ⟨b1, o1, rfl, _, hx⟩ := ha.at_ (by omega)
        obtain ⟨b2, o2, rfl, _, hy⟩ := hb.at_ (by omega)
        obtain ⟨j, rfl⟩ : ∃ j, k = j+1 := ⟨k-1, by omega⟩
        have hxk := hx j (by omega)
        have hyk := hy j (by omega)
        clear ha hb hx hy
        have hj1 : (0 : Int) ≤ ((j + 1 : Nat) : Int) - 1 := by omega
        have HO := Lib.hid (ord_top ba bb (by omega) HL.out hk2.out)
        rcases Nat.lt_trichotomy (wd a j) (wd b j) with h1 | h1 | h1
        · have t1 : decide ((wd a j : Int) < (wd b j : Int)) = true := by simp; omega
          have HR := Lib.hid (HO.out.1 h1)
          go_wp2
          go_quiet (fail)
          go_wp2
          go_ret
          exact ⟨by rw [HR.out]; rfl, drw _ _⟩
        · have t1 : decide (wd a j < wd b j) = false := by simp; omega
          have t2 : decide (wd b j < wd a j) = false := by simp; omega
          have HR := Lib.hid (ord_step (by omega) HL.out hk2.out h1)
          clear h1
          go_wp2
          go_quiet (fail)
          go_wp2
          go_quiet (fail)
          go_wp2
          go_roundw
          case rel => exact ⟨j, by omega, by go_num, HR, _, rfl⟩
          case measure => simp [intOf]
        · have t1 : decide (wd a j < wd b j) = false := by simp; omega
          have HR := Lib.hid (HO.out.2 h1)
          go_wp2
          go_quiet (fail)
          go_wp2
          go_quiet (fail)
          go_wp2
          go_ret
          exact ⟨by rw [HR.out]; rfl, drw3 _ _ _⟩
      · obtain rfl : k = 0 := by omega
        go_wp2
        go_ret
        refine ⟨?_, q, rfl⟩
        have h2 := hk2.out
        rw [List.drop_zero, List.drop_zero] at h2
        exact ret_int (by rw [h2, cmpN_self])
  · have hl1 : ((a.length : Int) != (b.length : Int)) = true := by simp; omega
    by_cases hlt : a.length < b.length
    · have HR := Lib.hid (cmpN_lt (len_lt ba nb hlt))
      go_enter Tryz.func45, Tryz.ntmps45
      go_wp2
      go_ret
      exact ⟨by rw [HR.out]; rfl, 0, rfl⟩
    · have HR := Lib.hid (cmpN_gt (len_lt bb na (by omega)))
      go_enter Tryz.func45, Tryz.ntmps45
      go_wp2
      go_ret
      exact ⟨by rw [HR.out]; rfl, 0, rfl⟩

theorem same_step {a b : List Nat} {j : Nat} (hj : j < a.length) (hl : a.length = b.length) (hd : a.take j = b.take j) (h : wd a j = wd b j) : a.take (j + 1) = b.take (j + 1) := by
  rw [take_succ_wd hj, take_succ_wd (by omega : j < b.length), hd, h]

theorem add32_any (x y z : Nat) (w : World) (hx2 : x < 4294967296) (hy2 : y < 4294967296) (hz2 : z ≤ 1) :
    Calls Tryz.prog 66 #[.int .u32 x, .int .u32 y, .int .u32 z] w fun e w' => e = .returned (.tuple #[.int .u32 (addf x y z), .int .u32 (addc x y z)]) ∧ w = w' := by
  have e1 : ((x : Int) + y + z) % 4294967296 = (addf x y z : Int) := by unfold addf; omega
  have e2 : ((x : Int) + y + z) / 4294967296 = (addc x y z : Int) := by unfold addc; omega
  have E1 := Lib.hid e1
  have E2 := Lib.hid e2
  clear e1 e2
  go_enter Tryz.func66, Tryz.ntmps66
  go_wp2
  go_ret2
  refine ⟨?_, rfl⟩
  rw [← E1.out, ← E2.out]
  rfl

theorem sub32_any (x y z : Nat) (w : World) (hx2 : x < 4294967296) (hy2 : y < 4294967296) (hz2 : z ≤ 1) :
    Calls Tryz.prog 48 #[.int .u32 x, .int .u32 y, .int .u32 z] w fun e w' => e = .returned (.tuple #[.int .u32 (sdf32 x y z), .int .u32 (bor32 x y z)]) ∧ w = w' := by
  go_enter Tryz.func48, Tryz.ntmps48
  go_wp2
  have hd : ((x : Int) - y - z) % 4294967296 = (sdf32 x y z : Int) := by unfold sdf32; omega
  have hdl : sdf32 x y z < 4294967296 := by unfold sdf32; omega
  have hmax : IntKind.u32.max = ((4294967295 : Nat) : Int) := rfl
  have hb := sub_borrow hx2 hy2 hz2 (d := sdf32 x y z) rfl
  rw [hd, hmax]
  generalize sdf32 x y z = d at *
  have h1 : (4294967295 ^^^ x) < 2 ^ 32 := Nat.xor_lt_two_pow (by omega) (by omega)
  have h0 : (x ^^^ y) < 2 ^ 32 := Nat.xor_lt_two_pow (by omega) (by omega)
  have h2 : (4294967295 ^^^ (x ^^^ y)) < 2 ^ 32 := Nat.xor_lt_two_pow (by omega) (by omega)
  have h3 : ((4294967295 ^^^ x) &&& y) < 2 ^ 32 := Nat.and_lt_two_pow _ (by omega)
  have h4 : ((4294967295 ^^^ (x ^^^ y)) &&& d) < 2 ^ 32 := Nat.and_lt_two_pow _ (by omega)
  rw [u32_xor_nat 4294967295 x (by omega) hx2, u32_xor_nat x y hx2 hy2, u32_xor_nat 4294967295 (x ^^^ y) (by omega) (by omega), u32_and_nat _ y (by omega) hy2, u32_and_nat _ d (by omega) hdl, u32_or_nat _ _ (by omega) (by omega)]
  go_ret2
  refine ⟨?_, rfl⟩
  rw [← hb]
  rfl
end Go.Proofs.YtbgggepdlkbpoaaGreatDoor
namespace Go.Proofs.YtbgggepdlkbpoaaGreatDoor
open Go.RowKit

/-- an answer: a slice of the call's own that holds a number's words -/
def RetW (w : World) (N : Nat) (e : Ending) (w' : World) : Prop := ∃ A' c', e = .returned (.slice A' (digs N).length c') ∧ OW w' w.heap.size A' c' (digs N) ∧ Below w.heap.size w w'

set_option maxHeartbeats 1000000 in
theorem plus_any (A D : Option Addr) (c d n m : Nat) (a b : List Nat) (w : World) (hn : n = a.length) (hm : m = b.length) (ha : RW w w.heap.size A c a) (hb : RW w w.heap.size D d b) (hla : a.length ≤ 17592186044416) (hlb : b.length ≤ 17592186044416) :
    Calls Tryz.prog 51 #[.slice A n c, .slice D m d] w (RetW w (val a + val b)) := by
  subst hn hm
  have ba := ha.b32
  have bb := hb.b32
  by_cases hlen : a.length < b.length
  · have hba2 : a.length ≤ b.length := by omega
    rw [Nat.add_comm (val a) (val b)]
    go_enter Tryz.func51, Tryz.ntmps51
    go_wp2_with (at_make; refine wp_makeW _ rfl _ _ rfl .i64 .i64 _ _ (b.length + 1) rfl rfl (by omega) (by omega) (by omega) ?_; intro w1 hO1 hb1 hs1)
    go_loopw [6, 22] (fun cr i wr => ∃ (k q : Nat) (o : List Nat), k ≤ b.length ∧ i = .int .i64 (k : Int) ∧ q ≤ 1 ∧ cr = .int .u32 (q : Int) ∧ OW wr w.heap.size (some ⟨w.heap.size, 0, none⟩) (b.length + 1) o ∧ Hid (o.length = b.length + 1) ∧
        Hid (val (o.take k) + q * Wp k = val (b.take k) + val (a.take k)) ∧ Below w.heap.size w wr) (fun _ i _ => (b.length - intOf i).toNat)
    case atStart => exact ⟨0, 0, _, Nat.zero_le _, rfl, by omega, rfl, hO1, by show _ = _; simp, by show _ = _; simp [val], hb1⟩
    case round =>
      obtain ⟨k, q, o, hk, rfl, hq, rfl, hO, hol, hinv, hbel⟩ := hrel
      have hwx := wd_lt bb k
      have hwy := wd_lt ba k
      have hb1 := hb.below hbel
      have ha1 := ha.below hbel
      have hfz := hO.frozen
      by_cases h0 : k < b.length
      · obtain ⟨b1, o1, rfl, hlt1, hx⟩ := hb1.at_ (by omega)
        have hxk := hx k h0
        have hok : k < o.length := by have := hol.out; omega
        have hoc := hO.cell hok
        have hfzk := hfz k
        have hst := Lib.hid (plus_step hok hinv.out)
        have hset := hO.set k (addf_lt (wd b k) (wd a k) q)
        have hcl := addc_le hwx hwy hq
        have hbel2 := hbel.setCell (p := ⟨w.heap.size, k, none⟩) (Nat.le_refl _) (.int .u32 (addf (wd b k) (wd a k) q : Nat))
        clear hx hb hb1
        by_cases h1 : k < a.length
        · obtain ⟨b2, o2, rfl, hlt2, hy⟩ := ha1.at_ (by omega)
          have hyk := hy k h1
          clear hy ha ha1
          go_wp2_with (go_at_call 66; refine (add32_any (wd b k) (wd a k) q _ hwx hwy hq).mono ?_; rintro e w' ⟨rfl, rfl⟩)
          go_roundw
          case rel => exact ⟨k + 1, _, _, by omega, by go_num, hcl, rfl, hset, by show _ = _; rw [List.length_set]; exact hol.out, hst, hbel2⟩
          case measure => simp [intOf]; omega
        · have hy0 := Lib.hid (wd_out (l := a) (k := k) (by omega))
          rw [hy0.out] at hst hset hcl hbel2
          clear ha ha1
          go_wp2_with (go_at_call 66; refine (add32_any (wd b k) 0 q _ hwx (by omega) hq).mono ?_; rintro e w' ⟨rfl, rfl⟩)
          go_roundw
          case rel => exact ⟨k + 1, _, _, by omega, by go_num, hcl, rfl, hset, by show _ = _; rw [List.length_set]; exact hol.out, hst, hbel2⟩
          case measure => simp [intOf]; omega
      · obtain rfl : k = b.length := by omega
        have hok : b.length < o.length := by have := hol.out; omega
        have hoc := hO.cell hok
        have hfzk := hfz b.length
        have hset := hO.set b.length (show q < 4294967296 by omega)
        have hbel2 := hbel.setCell (p := ⟨w.heap.size, b.length, none⟩) (Nat.le_refl _) (.int .u32 (q : Nat))
        have hfin := Lib.hid (plus_end hol.out (Nat.le_refl _) hba2 hinv.out)
        have hlen2 : Hid ((o.set b.length q).length = b.length + 1) := by show _ = _; rw [List.length_set]; exact hol.out
        go_wp2_with (go_at_call 49; refine (norm_any _ _ _ (o.set b.length q) _ hlen2.out.symm hset.rw).mono ?_; rintro e w' ⟨rfl, rfl⟩)
        go_ret
        have hn := hset.norm
        rw [hfin.out] at hn ⊢
        exact ⟨_, _, rfl, hn, hbel2⟩
  · have hba2 : b.length ≤ a.length := by omega
    go_enter Tryz.func51, Tryz.ntmps51
    go_wp2_with (at_make; refine wp_makeW _ rfl _ _ rfl .i64 .i64 _ _ (a.length + 1) rfl rfl (by omega) (by omega) (by omega) ?_; intro w1 hO1 hb1 hs1)
    go_loopw [6, 22] (fun cr i wr => ∃ (k q : Nat) (o : List Nat), k ≤ a.length ∧ i = .int .i64 (k : Int) ∧ q ≤ 1 ∧ cr = .int .u32 (q : Int) ∧ OW wr w.heap.size (some ⟨w.heap.size, 0, none⟩) (a.length + 1) o ∧ Hid (o.length = a.length + 1) ∧
        Hid (val (o.take k) + q * Wp k = val (a.take k) + val (b.take k)) ∧ Below w.heap.size w wr) (fun _ i _ => (a.length - intOf i).toNat)
    case atStart => exact ⟨0, 0, _, Nat.zero_le _, rfl, by omega, rfl, hO1, by show _ = _; simp, by show _ = _; simp [val], hb1⟩
    case round =>
      obtain ⟨k, q, o, hk, rfl, hq, rfl, hO, hol, hinv, hbel⟩ := hrel
      have hwx := wd_lt ba k
      have hwy := wd_lt bb k
      have ha1 := ha.below hbel
      have hb1 := hb.below hbel
      have hfz := hO.frozen
      by_cases h0 : k < a.length
      · obtain ⟨b1, o1, rfl, hlt1, hx⟩ := ha1.at_ (by omega)
        have hxk := hx k h0
        have hok : k < o.length := by have := hol.out; omega
        have hoc := hO.cell hok
        have hfzk := hfz k
        have hst := Lib.hid (plus_step hok hinv.out)
        have hset := hO.set k (addf_lt (wd a k) (wd b k) q)
        have hcl := addc_le hwx hwy hq
        have hbel2 := hbel.setCell (p := ⟨w.heap.size, k, none⟩) (Nat.le_refl _) (.int .u32 (addf (wd a k) (wd b k) q : Nat))
        clear hx ha ha1
        by_cases h1 : k < b.length
        · obtain ⟨b2, o2, rfl, hlt2, hy⟩ := hb1.at_ (by omega)
          have hyk := hy k h1
          clear hy hb hb1
          go_wp2_with (go_at_call 66; refine (add32_any (wd a k) (wd b k) q _ hwx hwy hq).mono ?_; rintro e w' ⟨rfl, rfl⟩)
          go_roundw
          case rel => exact ⟨k + 1, _, _, by omega, by go_num, hcl, rfl, hset, by show _ = _; rw [List.length_set]; exact hol.out, hst, hbel2⟩
          case measure => simp [intOf]; omega
        · have hy0 := Lib.hid (wd_out (l := b) (k := k) (by omega))
          rw [hy0.out] at hst hset hcl hbel2
          clear hb hb1
          go_wp2_with (go_at_call 66; refine (add32_any (wd a k) 0 q _ hwx (by omega) hq).mono ?_; rintro e w' ⟨rfl, rfl⟩)
          go_roundw
          case rel => exact ⟨k + 1, _, _, by omega, by go_num, hcl, rfl, hset, by show _ = _; rw [List.length_set]; exact hol.out, hst, hbel2⟩
          case measure => simp [intOf]; omega
      · obtain rfl : k = a.length := by omega
        have hok : a.length < o.length := by have := hol.out; omega
        have hoc := hO.cell hok
        have hfzk := hfz a.length
        have hset := hO.set a.length (show q < 4294967296 by omega)
        have hbel2 := hbel.setCell (p := ⟨w.heap.size, a.length, none⟩) (Nat.le_refl _) (.int .u32 (q : Nat))
        have hfin := Lib.hid (plus_end hol.out (Nat.le_refl _) hba2 hinv.out)
        have hlen2 : Hid ((o.set a.length q).length = a.length + 1) := by show _ = _; rw [List.length_set]; exact hol.out
        go_wp2_with (go_at_call 49; refine (norm_any _ _ _ (o.set a.length q) _ hlen2.out.symm hset.rw).mono ?_; rintro e w' ⟨rfl, rfl⟩)
        go_ret
        have hn := hset.norm
        rw [hfin.out] at hn ⊢
        exact ⟨_, _, rfl, hn, hbel2⟩

set_option maxHeartbeats 1000000 in
theorem less_any (A D : Option Addr) (c d n m : Nat) (a b : List Nat) (w : World) (hn : n = a.length) (hm : m = b.length) (ha : RW w w.heap.size A c a) (hb : RW w w.heap.size D d b) (hba2 : b.length ≤ a.length) (hle : val b ≤ val a) :
    Calls Tryz.prog 25 #[.slice A n c, .slice D m d] w (RetW w (val a - val b)) := by
  subst hn hm
  have ba := ha.b32
  have bb := hb.b32
  have hla := ha.big
  go_enter Tryz.func25, Tryz.ntmps25
  go_wp2_with (at_make; refine wp_makeW _ rfl _ _ rfl .i64 .i64 _ _ a.length rfl rfl (by omega) (by omega) (by omega) ?_; intro w1 hO1 hb1 hs1)
  go_loopw [6, 14] (fun cr i wr => ∃ (k q : Nat) (o : List Nat), k ≤ a.length ∧ i = .int .i64 (k : Int) ∧ q ≤ 1 ∧ cr = .int .u32 (q : Int) ∧ OW wr w.heap.size (some ⟨w.heap.size, 0, none⟩) a.length o ∧ Hid (o.length = a.length) ∧
      Hid (val (o.take k) + val (b.take k) = val (a.take k) + q * Wp k) ∧ Below w.heap.size w wr) (fun _ i _ => (a.length - intOf i).toNat)
  case atStart => exact ⟨0, 0, _, Nat.zero_le _, rfl, by omega, rfl, hO1, by show _ = _; simp, by show _ = _; simp [val], hb1⟩
  case round =>
    obtain ⟨k, q, o, hk, rfl, hq, rfl, hO, hol, hinv, hbel⟩ := hrel
    have hwx := wd_lt ba k
    have hwy := wd_lt bb k
    have ha1 := ha.below hbel
    have hb1 := hb.below hbel
    have hfz := hO.frozen
    by_cases h0 : k < a.length
    · obtain ⟨b1, o1, rfl, hlt1, hx⟩ := ha1.at_ (by omega)
      have hxk := hx k h0
      have hok : k < o.length := by have := hol.out; omega
      have hoc := hO.cell hok
      have hfzk := hfz k
      have hst := Lib.hid (less_step ba bb hq hok hinv.out)
      have hset := hO.set k (sdf_lt (wd a k) (wd b k) q)
      have hcl := bor_le (wd a k) (wd b k) q
      have hbel2 := hbel.setCell (p := ⟨w.heap.size, k, none⟩) (Nat.le_refl _) (.int .u32 (sdf32 (wd a k) (wd b k) q : Nat))
      clear hx ha ha1
      by_cases h1 : k < b.length
      · obtain ⟨b2, o2, rfl, hlt2, hy⟩ := hb1.at_ (by omega)
        have hyk := hy k h1
        clear hy hb hb1
        go_wp2_with (go_at_call 48; refine (sub32_any (wd a k) (wd b k) q _ hwx hwy hq).mono ?_; rintro e w' ⟨rfl, rfl⟩)
        go_roundw
        case rel => exact ⟨k + 1, _, _, by omega, by go_num, hcl, rfl, hset, by show _ = _; rw [List.length_set]; exact hol.out, hst, hbel2⟩
        case measure => simp [intOf]; omega
      · have hy0 := Lib.hid (wd_out (l := b) (k := k) (by omega))
        rw [hy0.out] at hst hset hcl hbel2
        clear hb hb1
        go_wp2_with (go_at_call 48; refine (sub32_any (wd a k) 0 q _ hwx (by omega) hq).mono ?_; rintro e w' ⟨rfl, rfl⟩)
        go_roundw
        case rel => exact ⟨k + 1, _, _, by omega, by go_num, hcl, rfl, hset, by show _ = _; rw [List.length_set]; exact hol.out, hst, hbel2⟩
        case measure => simp [intOf]; omega
    · obtain rfl : k = a.length := by omega
      have hfin := Lib.hid (less_end hol.out hO.b32 hba2 hle hinv.out)
      go_wp2_with (go_at_call 49; refine (norm_any _ _ _ o _ hol.out.symm hO.rw).mono ?_; rintro e w' ⟨rfl, rfl⟩)
      go_ret
      have hn := hO.norm
      rw [hfin.out] at hn ⊢
      exact ⟨_, _, rfl, hn, hbel⟩
end Go.Proofs.YtbgggepdlkbpoaaGreatDoor
namespace Go.Proofs.YtbgggepdlkbpoaaGreatDoor
open Go.RowKit

/-! ### the reference's Plus -/
theorem rplus_step {a b o : List Nat} {k q : Nat} (hk : o.length = k) (h : val o + q * Wp k = val (a.take k) + val (b.take k)) :
    val (o ++ [(q + (wd a k + wd b k)) % 4294967296]) + (q + (wd a k + wd b k)) / 4294967296 * Wp (k + 1) = val (a.take (k + 1)) + val (b.take (k + 1)) := by
  have e : (q + (wd a k + wd b k)) % 4294967296 + (q + (wd a k + wd b k)) / 4294967296 * 4294967296 = q + (wd a k + wd b k) := by omega
  generalize (q + (wd a k + wd b k)) % 4294967296 = f at *
  generalize (q + (wd a k + wd b k)) / 4294967296 = c at *
  rw [val_append, hk, val_take_succ' a, val_take_succ' b, Wp_succ, val_one]
  have e2 : (f + c * 4294967296) * Wp k = (q + (wd a k + wd b k)) * Wp k := by rw [e]
  rw [Nat.add_mul, Nat.add_mul, Nat.add_mul] at e2
  have e3 : c * (4294967296 * Wp k) = c * 4294967296 * Wp k := by rw [Nat.mul_assoc]
  rw [Nat.mul_comm (Wp k) f]
  omega
theorem rplus_end {a b o : List Nat} {k q : Nat} (hk : o.length = k) (ha : a.length ≤ k) (hb : b.length ≤ k) (h : val o + q * Wp k = val (a.take k) + val (b.take k)) : val (o ++ [q]) = val a + val b := by
  rw [val_append, hk, val_one, Nat.mul_comm, h, val_take_all ha, val_take_all hb]
def rf (q x y : Nat) : Nat := (q + (x + y)) % 4294967296
def rc (q x y : Nat) : Nat := (q + (x + y)) / 4294967296
theorem rf_lt (q x y : Nat) : rf q x y < 4294967296 := Nat.mod_lt _ (by omega)
theorem rc_le {q x y : Nat} (hq : q ≤ 1) (hx : x < 4294967296) (hy : y < 4294967296) : rc q x y ≤ 1 := by unfold rc; omega

theorem rless_step {a b o : List Nat} {k q : Nat} (ha : B32 a) (hb : B32 b) (hq : q ≤ 1) (hk : o.length = k) (h : val o + val (b.take k) = val (a.take k) + q * Wp k) :
    val (o ++ [sdf32 (wd a k) (wd b k) q]) + val (b.take (k + 1)) = val (a.take (k + 1)) + bor32 (wd a k) (wd b k) q * Wp (k + 1) := by
  have e := sub_eq (wd_lt ha k) (wd_lt hb k) hq
  generalize sdf32 (wd a k) (wd b k) q = f at *
  generalize bor32 (wd a k) (wd b k) q = c at *
  rw [val_append, hk, val_take_succ' a, val_take_succ' b, Wp_succ, val_one]
  have e2 : (f + wd b k + q) * Wp k = (wd a k + c * 4294967296) * Wp k := by rw [e]
  rw [Nat.add_mul, Nat.add_mul, Nat.add_mul] at e2
  have e3 : c * (4294967296 * Wp k) = c * 4294967296 * Wp k := by rw [Nat.mul_assoc]
  rw [Nat.mul_comm (Wp k) f]
  omega
theorem rless_end {a b o : List Nat} {q : Nat} (ho : o.length = a.length) (hoB : B32 o) (hb : b.length ≤ a.length) (hle : val b ≤ val a)
    (h : val o + val (b.take a.length) = val (a.take a.length) + q * Wp a.length) : val o = val a - val b :=
  less_end ho hoB hb hle (by rw [val_take_all (Nat.le_of_eq ho)]; exact h)

end Go.Proofs.YtbgggepdlkbpoaaGreatDoor
namespace Go.Proofs.YtbgggepdlkbpoaaGreatDoor
open Go.RowKit

def Zs (o : List Nat) (k : Nat) : Prop := ∀ t, k ≤ t → wd o t = 0
theorem Zs_rep (n k : Nat) : Zs (List.replicate n 0) k := fun t _ => wd_replicate n t
theorem Zs_set {o : List Nat} {k j x : Nat} (h : Zs o k) (hj : j < k) : Zs (o.set j x) k := fun t ht => by rw [wd_set_ne (by omega)]; exact h t ht
theorem Zs_more {o : List Nat} {k k' : Nat} (h : Zs o k) (hk : k ≤ k') : Zs o k' := fun t ht => h t (by omega)

set_option maxHeartbeats 2000000 in
theorem times_any (A D : Option Addr) (c d n m : Nat) (a b : List Nat) (w : World) (hn : n = a.length) (hm : m = b.length) (ha : RW w w.heap.size A c a) (hb : RW w w.heap.size D d b) (hla : a.length ≤ 17592186044416) (hlb : b.length ≤ 17592186044416) :
    Calls Tryz.prog 54 #[.slice A n c, .slice D m d] w (RetW w (val a * val b)) := by
  subst hn hm
  have ba := ha.b32
  have bb := hb.b32
  go_enter Tryz.func54, Tryz.ntmps54
  go_wp2_with (at_make; refine wp_makeW _ rfl _ _ rfl .i64 .i64 _ _ (a.length + b.length) rfl rfl (by omega) (by omega) (by omega) ?_; intro w1 hO1 hb1 hs1)
  go_loopw [19] (fun iv wr => ∃ (i : Nat) (o : List Nat), i ≤ a.length ∧ iv = .int .i64 (i : Int) ∧ OW wr w.heap.size (some ⟨w.heap.size, 0, none⟩) (a.length + b.length) o ∧ Hid (o.length = a.length + b.length) ∧
      Hid (val o = val (a.take i) * val b) ∧ Hid (Zs o (i + b.length)) ∧ Below w.heap.size w wr) (fun iv _ => (a.length - intOf iv).toNat)
  case atStart => exact ⟨0, _, Nat.zero_le _, rfl, hO1, by show _ = _; simp, by show _ = _; simp [val, val_replicate], Zs_rep _ _, hb1⟩
  case round =>
    obtain ⟨i, o, hi, rfl, hO, hol, hinv, hz, hbel⟩ := hrel
    obtain ⟨wo, rfl⟩ : ∃ wo : World, wo = wr := ⟨_, rfl⟩
    have hwx := wd_lt ba i
    have ha1 := ha.below hbel
    by_cases h0 : i < a.length
    · obtain ⟨b1, o1, rfl, hlt1, hx⟩ := ha1.at_ (by omega)
      have hxk := hx i h0
      clear hx ha ha1
      go_wp2
      go_loopw [8, 26] (fun cv jv wr => ∃ (j q : Nat) (o' : List Nat), j ≤ b.length ∧ jv = .int .i64 (j : Int) ∧ q < 4294967296 ∧ cv = .int .u64 (q : Int) ∧ OW wr w.heap.size (some ⟨w.heap.size, 0, none⟩) (a.length + b.length) o' ∧ Hid (o'.length = a.length + b.length) ∧
        Hid (val o' + q * Wp (i + j) = val o + wd a i * Wp i * val (b.take j)) ∧ Hid (Zs o' (i + b.length)) ∧ Below w.heap.size w wr) (fun _ jv _ => (b.length - intOf jv).toNat)
      case atStart => exact ⟨0, 0, o, Nat.zero_le _, rfl, by omega, rfl, hO, hol, by show _ = _; simp [val], hz, hbel⟩
      case round =>
        obtain ⟨j, q, o', hj, rfl, hq, rfl, hO', hol', hinv', hz', hbel'⟩ := hrel
        have hwy := wd_lt bb j
        have hb1 := hb.below hbel'
        have hwo := wd_lt hO'.b32 (i + j)
        have hfz := hO'.frozen
        by_cases h1 : j < b.length
        · obtain ⟨b2, o2, rfl, hlt2, hy⟩ := hb1.at_ (by omega)
          have hyk := hy j h1
          clear hy hb hb1
          have hok : i + j < o'.length := by have := hol'.out; omega
          have hoc := hO'.cell hok
          have hfzk := hfz (i + j)
          have hst := Lib.hid (times_step hok (wd a i) rfl hinv'.out)
          have hset := hO'.set (i + j) (tf_lt q (wd a i) (wd b j) (wd o' (i + j)))
          have hcl := tc_lt hq hwx hwy hwo
          have hbel2 := hbel'.setCell (p := ⟨w.heap.size, i + j, none⟩) (Nat.le_refl _) (.int .u32 (tf q (wd a i) (wd b j) (wd o' (i + j)) : Nat))
          obtain ⟨hm0, hm1⟩ := mulI hwx hwy
          have e1 := tf_int q (wd a i) (wd b j) (wd o' (i + j))
          have e2 := tc_int q (wd a i) (wd b j) (wd o' (i + j))
          go_wp2
          go_roundw
          case rel => exact ⟨j + 1, _, _, by omega, by go_num, hcl, rfl, hset, by show _ = _; rw [List.length_set]; exact hol'.out, hst, Zs_set hz'.out (by omega), hbel2⟩
          case measure => simp [intOf]; omega
        · obtain rfl : j = b.length := by omega
          have hok : i + b.length < o'.length := by have := hol'.out; omega
          have hoc := hO'.cell hok
          have hfzk := hfz (i + b.length)
          have hset := hO'.set (i + b.length) hq
          have hbel2 := hbel'.setCell (p := ⟨w.heap.size, i + b.length, none⟩) (Nat.le_refl _) (.int .u32 (q : Nat))
          have hfin := Lib.hid (times_end (a := a) hok (hz'.out _ (Nat.le_refl _)) hinv'.out hinv.out)
          clear hb hb1
          go_wp2
          go_roundw
          case rel => exact ⟨i + 1, _, by omega, by go_num, hset, by show _ = _; rw [List.length_set]; exact hol'.out, hfin, Zs_set (Zs_more hz'.out (by omega)) (by omega), hbel2⟩
          case measure => simp [intOf]; omega
    · obtain rfl : i = a.length := by omega
      have hO2 := hO.rw
      have hfin : Hid (val o = val a * val b) := by have := hinv.out; rw [List.take_length] at this; exact this
      go_wp2_with (go_at_call 49; refine (norm_any _ _ _ o _ hol.out.symm hO2).mono ?_; rintro e w' ⟨rfl, rfl⟩)
      go_ret
      have hn := hO.norm
      rw [hfin.out] at hn ⊢
      exact ⟨_, _, rfl, hn, hbel⟩

end Go.Proofs.YtbgggepdlkbpoaaGreatDoor
namespace Go.Proofs.YtbgggepdlkbpoaaGreatDoor
open Go.RowKit

theorem nrm_iff {l : List Nat} (hb : B32 l) : l = digs (val l) ↔ Nrm l := ⟨Nrm_of_digs, fun h => (digs_val hb h).symm⟩
def chk2 (a b : List Nat) : Bool := soundB a && soundB b

/-- the two slices that are checked, as the variadic list -/
theorem RL_two (w : World) (t : TypeId) (A D : Option Addr) (c d : Nat) (a b : List Nat) :
    RL fS (w.alloc (.cells #[.slice A a.length c, .slice D b.length d] t)) (w.heap.size + 1) (some ⟨w.heap.size, 0, none⟩) 2 [(A, c, a), (D, d, b)] := by
  refine ⟨by simp, by simp, fun _ => ⟨_, _, rfl, by omega, fun k z hk => ?_⟩⟩
  have h0 := heap_alloc_new w (.cells #[.slice A a.length c, .slice D b.length d] t)
  rw [cell_of_row _ _ _ _ _ _ h0, Nat.zero_add]
  match k, hk with
  | 0, hk => simp at hk; subst hk; rfl
  | 1, hk => simp at hk; subst hk; rfl
theorem RL_one (w : World) (t : TypeId) (A : Option Addr) (c : Nat) (a : List Nat) :
    RL fS (w.alloc (.cells #[.slice A a.length c] t)) (w.heap.size + 1) (some ⟨w.heap.size, 0, none⟩) 1 [(A, c, a)] := by
  refine ⟨by simp, by simp, fun _ => ⟨_, _, rfl, by omega, fun k z hk => ?_⟩⟩
  have h0 := heap_alloc_new w (.cells #[.slice A a.length c] t)
  rw [cell_of_row _ _ _ _ _ _ h0, Nat.zero_add]
  match k, hk with
  | 0, hk => simp at hk; subst hk; rfl

/-- check(a, b), as it is called -/
theorem check2_any (A D : Option Addr) (c d : Nat) (a b : List Nat) (w : World) (t : TypeId) (ha : RW w w.heap.size A c a) (hb : RW w w.heap.size D d b) :
    Calls Tryz.prog 70 #[.slice (some ⟨w.heap.size, 0, none⟩) 2 2] (w.alloc (.cells #[.slice A a.length c, .slice D b.length d] t)) fun e w' =>
      e = .returned (.int .i64 (if chk2 a b then 0 else 2)) ∧ w.alloc (.cells #[.slice A a.length c, .slice D b.length d] t) = w' := by
  have hb2 : Below w.heap.size w (w.alloc (.cells #[.slice A a.length c, .slice D b.length d] t)) := (Below.refl _ _).alloc (Nat.le_refl _) _
  have h := check_any (some ⟨w.heap.size, 0, none⟩) 2 2 [(A, c, a), (D, d, b)] _ rfl ((RL_two w t A D c d a b).more (by simp)) (by
    intro x hx
    simp only [List.mem_cons, List.not_mem_nil, or_false] at hx
    rcases hx with rfl | rfl
    · exact ha.step hb2 (by simp)
    · exact hb.step hb2 (by simp))
  simpa [chk, chk2] using h
theorem check1_any (A : Option Addr) (c : Nat) (a : List Nat) (w : World) (t : TypeId) (ha : RW w w.heap.size A c a) :
    Calls Tryz.prog 70 #[.slice (some ⟨w.heap.size, 0, none⟩) 1 1] (w.alloc (.cells #[.slice A a.length c] t)) fun e w' =>
      e = .returned (.int .i64 (if soundB a then 0 else 2)) ∧ w.alloc (.cells #[.slice A a.length c] t) = w' := by
  have hb2 : Below w.heap.size w (w.alloc (.cells #[.slice A a.length c] t)) := (Below.refl _ _).alloc (Nat.le_refl _) _
  have h := check_any (some ⟨w.heap.size, 0, none⟩) 1 1 [(A, c, a)] _ rfl ((RL_one w t A c a).more (by simp)) (by
    intro x hx
    simp only [List.mem_cons, List.not_mem_nil, or_false] at hx
    subst hx
    exact ha.step hb2 (by simp))
  simpa [chk] using h
end Go.Proofs.YtbgggepdlkbpoaaGreatDoor
namespace Go.Proofs.YtbgggepdlkbpoaaGreatDoor
open Go.RowKit

/-- an answer with an error's number: a slice of the call's own that holds a number's words -/
def RetE (w : World) (r : Nat × Int) (e : Ending) (w' : World) : Prop :=
  ∃ A' c', e = .returned (.tuple #[.slice A' (digs r.1).length c', .int .i64 r.2]) ∧ OW w' w.heap.size A' c' (digs r.1) ∧ Below w.heap.size w w'
def fitA (N : Nat) : Nat × Int := if (digs N).length ≤ 512 then (N, 0) else (0, 4)
theorem ret_nil {w w' : World} (k : Int) (hb : Below w.heap.size w w') : RetE w (0, k) (.returned (.tuple #[.slice none 0 0, .int .i64 k])) w' := by
  refine ⟨none, 0, ?_, ?_, hb⟩
  · rw [digs_zero]; rfl
  · rw [digs_zero]; exact OW.nil _ _

/-- fit of an answer -/
theorem fit_ret {w w1 w2 : World} {N : Nat} {A' : Option Addr} {c' : Nat} (hO : OW w1 w.heap.size A' c' (digs N)) (hb : Below w.heap.size w w1) {e : Ending}
    (he : e = .returned (if (digs N).length ≤ 512 then .tuple #[.slice A' (digs N).length c', .int .i64 0] else .tuple #[.slice none 0 0, .int .i64 4]) ∧ w1 = w2) : RetE w (fitA N) e w2 := by
  obtain ⟨rfl, rfl⟩ := he
  unfold fitA
  by_cases h : (digs N).length ≤ 512
  · rw [if_pos h, if_pos h]; exact ⟨A', c', rfl, hO, hb⟩
  · rw [if_neg h, if_neg h]; exact ret_nil 4 hb
theorem big_of_chk {a b : List Nat} (h : chk2 a b = true) : a.length ≤ 512 ∧ b.length ≤ 512 ∧ a = digs (val a) ∧ b = digs (val b) := by
  simp only [chk2, soundB, Bool.and_eq_true, decide_eq_true_eq] at h
  exact ⟨h.1.1, h.2.1, h.1.2, h.2.2⟩

def addA (a b : List Nat) : Nat × Int := if chk2 a b then fitA (val a + val b) else (0, 2)
def mulA (a b : List Nat) : Nat × Int := if chk2 a b then fitA (val a * val b) else (0, 2)
end Go.Proofs.YtbgggepdlkbpoaaGreatDoor
namespace Go.Proofs.YtbgggepdlkbpoaaGreatDoor
open Go.RowKit

theorem digs_one_ (x : Nat) (h0 : x ≠ 0) (h : x < 4294967296) : [x] = digs (val [x]) := by rw [val_one, digs_one h0 h]
theorem digs_wake : digs 4294967296 = [0, 1] := by
  have h := digs_val (l := [0, 1]) (B32_cons (by omega) (B32_cons (by omega) B32_nil)) (.inr (by simp [wd]))
  simpa [val] using h
theorem wake_add : addA [4294967295] [1] = (4294967296, 0) := by
  have h1 : soundB [4294967295] = true := by simp only [soundB, decide_eq_true_eq]; exact ⟨by simp, digs_one_ _ (by omega) (by omega)⟩
  have h2 : soundB [1] = true := by simp only [soundB, decide_eq_true_eq]; exact ⟨by simp, digs_one_ _ (by omega) (by omega)⟩
  have h3 : chk2 [4294967295] [1] = true := by simp [chk2, h1, h2]
  unfold addA fitA
  rw [if_pos h3, val_one, val_one]
  rw [show 4294967295 + 1 = 4294967296 from rfl, digs_wake]
  rfl

end Go.Proofs.YtbgggepdlkbpoaaGreatDoor
namespace Go.Proofs.YtbgggepdlkbpoaaGreatDoor
open Go.RowKit

theorem len_of_le {a b : List Nat} (ha : B32 a) (nb : Nrm b) (h : val b ≤ val a) : b.length ≤ a.length := by
  rcases Nat.lt_or_ge a.length b.length with h1 | h1
  · have := len_lt ha nb h1; omega
  · exact h1
def subA (a b : List Nat) : Nat × Int := if chk2 a b then (if val a < val b then (0, 1) else (val a - val b, 0)) else (0, 2)

def cmpA (a b : List Nat) : Int := if chk2 a b then cmpN (val a) (val b) else 0
def lo32 (n : Nat) : Nat := n % 4294967296
def hi32 (n : Nat) : Nat := n / 4294967296
theorem val_of (n : Nat) : val [lo32 n, hi32 n] = n := by simp only [val, lo32, hi32]; omega
theorem of_any (n : Int) (w : World) (h0 : 0 ≤ n) (h1 : n ≤ 18446744073709551615) : Calls Tryz.prog 47 #[.int .u64 n] w (RetW w n.toNat) := by
  obtain ⟨k, rfl⟩ := Int.eq_ofNat_of_zero_le h0
  rw [Int.toNat_natCast]
  have e1 : ((k : Int)) % 4294967296 = (lo32 k : Int) := by unfold lo32; omega
  have e2 : ((k : Int)) / 4294967296 = (hi32 k : Int) := by unfold hi32; omega
  have hl : lo32 k < 4294967296 := by unfold lo32; omega
  have hh : hi32 k < 4294967296 := by unfold hi32; omega
  have hO := OW.lit w [lo32 k, hi32 k] (by simp) (B32_cons hl (B32_cons hh B32_nil))
  have hb : Below w.heap.size w (w.alloc (.cells ([lo32 k, hi32 k].map fw).toArray 55)) := (Below.refl _ _).alloc (Nat.le_refl _) _
  have hn := norm_any (some ⟨w.heap.size, 0, none⟩) 2 2 [lo32 k, hi32 k] _ rfl hO.rw
  rw [val_of] at hn
  have hN := hO.norm
  rw [val_of] at hN
  go_enter Tryz.func47, Tryz.ntmps47
  go_wp2_with fail
  refine hn.mono ?_; rintro e w' ⟨rfl, rfl⟩
  go_wp2_with fail
  go_ret
  exact ⟨_, _, rfl, hN, hb⟩
end Go.Proofs.YtbgggepdlkbpoaaGreatDoor
namespace Go.Proofs.YtbgggepdlkbpoaaGreatDoor
open Go.RowKit

theorem bitLenAux_eq (f x : Nat) (h : x < 2 ^ f) : Lib.bitLenAux f x = blen x := by
  induction f generalizing x with
  | zero => have : x = 0 := by simpa using h
            subst this; rw [blen_zero]; rfl
  | succ f ih =>
    rw [Lib.bitLenAux]
    by_cases h0 : x = 0
    · subst h0; rw [if_pos rfl, blen_zero]
    · rw [if_neg h0, blen_pos h0, ih (x / 2) (by rw [Nat.pow_succ] at h; omega)]; omega
theorem bitLen_eq (x : Nat) (h : x < 4294967296) : Lib.bitLen x = blen x := bitLenAux_eq 64 x (by omega)
theorem len32_any (x : Nat) (w : World) (h : x < 4294967296) :
    Calls Tryz.prog 43 #[.int .u32 (x : Int)] w fun e w' => e = .returned (.int .i64 (blen x)) ∧ w = w' := by
  have h1 := Tryz.bits_Len32 (x : Int) w (by omega) (by omega)
  rw [Int.toNat_natCast, bitLen_eq x h] at h1
  exact h1.mono fun _ _ ⟨a, b⟩ => ⟨a, b.symm⟩
theorem blen32 {x : Nat} (h : x < 4294967296) : blen x ≤ 32 := blen_le.2 (by omega)

/-- the bits of a list without noughts at its end -/
theorem size_val {l : List Nat} {j : Nat} (hb : B32 l) (hl : l.length = j + 1) (h : wd l j ≠ 0) : blen (val l) = 32 * j + blen (wd l j) := by
  have h1 := val_take_succ (l := l) (k := j) (by omega)
  rw [← hl, List.take_length] at h1
  have h2 : Wp j ≤ val l := by
    have := Nat.mul_le_mul_right (Wp j) (show 1 ≤ wd l j by omega)
    omega
  rw [Wp_eq] at h2
  rw [blen_div (32 * j) h2, ← Wp_eq]
  have h3 : val l / Wp j = wd l j := by
    rw [h1, Nat.add_mul_div_right _ _ (Wp_pos j)]
    rw [Nat.div_eq_of_lt (val_take_lt hb j)]; omega
  rw [h3]; omega

theorem size_any (A : Option Addr) (c n : Nat) (l : List Nat) (w : World) (hn : n = l.length) (h : RW w w.heap.size A c l) (hN : Nrm l) :
    Calls Tryz.prog 17 #[.slice A n c] w fun e w' => e = .returned (.int .i64 (blen (val l))) ∧ w = w' := by
  subst hn
  have hbig := h.big
  rcases hN with rfl | hN
  · go_enter Tryz.func17, Tryz.ntmps17
    go_wp2
    go_ret
    exact ⟨ret_int (by rw [show val [] = 0 from rfl, blen_zero]; rfl), rfl⟩
  · have hl0 : l.length ≠ 0 := fun h0 => hN (wd_out (by omega))
    obtain ⟨j, hj⟩ : ∃ j, l.length = j + 1 := ⟨l.length - 1, by omega⟩
    obtain ⟨b, off, rfl, hb, hx⟩ := h.at_ (by omega)
    have hxk := hx j (by omega)
    have hwj : wd l j ≠ 0 := by rw [hj] at hN; exact hN
    have HS := Lib.hid (size_val h.b32 hj hwj)
    have hlt := wd_lt h.b32 j
    have hb32 := blen32 hlt
    have hL := len32_any (wd l j) w hlt
    rw [hj] at hbig ⊢
    clear hN hwj hl0 hx h
    go_enter Tryz.func17, Tryz.ntmps17
    go_wp2_with fail
    refine hL.mono ?_; rintro e w' ⟨rfl, rfl⟩
    go_wp2_with fail
    go_ret
    refine ⟨?_, rfl⟩
    rw [HS.out]
    exact ret_int (by omega)

def bitsA (l : List Nat) : Int := if soundB l then blen (val l) else 0
theorem and1_u32 (x : Nat) (h : x < 4294967296) : bits .and .u32 (x : Int) 1 = ((x % 2 : Nat) : Int) := by
  rw [show (1 : Int) = ((1 : Nat) : Int) from rfl, u32_and_nat x 1 h (by omega), Nat.and_one_is_mod]
theorem shr_cast (x s : Nat) (h : x < 4294967296) : (x : Int) / 2 ^ s % 4294967296 = ((x / 2 ^ s : Nat) : Int) := by
  have h1 : x / 2 ^ s ≤ x := Nat.div_le_self _ _
  have h2 : ((x / 2 ^ s : Nat) : Int) = (x : Int) / 2 ^ s := by simp
  generalize x / 2 ^ s = y at *
  rw [← h2]; omega
theorem bitN_zero_of {n k : Nat} (h : n < 2 ^ (k + 1)) (h0 : bitN n k = 0) : n < 2 ^ k := by
  rw [bitN_top h] at h0
  split at h0
  · cases h0
  · omega
theorem bitN_one_of {n k : Nat} (h : n < 2 ^ (k + 1)) (h0 : bitN n k ≠ 0) : blen n = k + 1 := by
  rw [bitN_top h] at h0
  split at h0
  · have h1 := (blen_le (n := n) (k := k + 1)).2 h
    have h2 : ¬ blen n ≤ k := by rw [blen_le]; omega
    omega
  · exact absurd rfl h0
theorem val_lt2 {l : List Nat} (h : B32 l) : val l < 2 ^ (32 * l.length) := by rw [← Wp_eq]; exact val_lt h

end Go.Proofs.YtbgggepdlkbpoaaGreatDoor
namespace Go.Proofs.YtbgggepdlkbpoaaGreatDoor

def shlo (x s : Nat) : Nat := x * 2 ^ s % 4294967296
def shhi (x s : Nat) : Nat := x * 2 ^ s / 4294967296
theorem pow_split {s : Nat} (h : s ≤ 32) : 4294967296 = 2 ^ (32 - s) * 2 ^ s := by rw [← Nat.pow_add, Nat.sub_add_cancel h]
theorem sh_eq (x s : Nat) : shlo x s + shhi x s * 4294967296 = x * 2 ^ s := by unfold shlo shhi; omega
theorem shlo_form {x s : Nat} (h : s < 32) : shlo x s = x % 2 ^ (32 - s) * 2 ^ s := by
  unfold shlo
  conv => lhs; rw [pow_split (Nat.le_of_lt h)]
  rw [Nat.mul_mod_mul_right]
theorem shlo_lt (x s : Nat) : shlo x s < 4294967296 := Nat.mod_lt _ (by omega)
theorem shhi_lt {x s : Nat} (hx : x < 4294967296) : shhi x s < 2 ^ s := by
  unfold shhi
  rw [Nat.div_lt_iff_lt_mul (by omega), Nat.mul_comm (2 ^ s)]
  exact Nat.mul_lt_mul_of_pos_right hx (Nat.pow_pos (by omega))
theorem pow_le32 {s : Nat} (h : s < 32) : 2 ^ s ≤ 2147483648 := by
  have := Nat.pow_le_pow_right (n := 2) (by omega) (show s ≤ 31 by omega)
  simpa using this
theorem or_shlo {y x s : Nat} (h : s < 32) (hy : y < 2 ^ s) : y ||| shlo x s = y + shlo x s ∧ y + shlo x s < 4294967296 := by
  rw [shlo_form h]
  constructor
  · have := Nat.two_pow_add_eq_or_of_lt hy (x % 2 ^ (32 - s))
    rw [Nat.or_comm, Nat.mul_comm _ (2 ^ s), ← this, Nat.add_comm]
  · have h1 : x % 2 ^ (32 - s) + 1 ≤ 2 ^ (32 - s) := Nat.mod_lt _ (Nat.pow_pos (by omega))
    have h2 := Nat.mul_le_mul_right (2 ^ s) h1
    rw [← pow_split (Nat.le_of_lt h), Nat.add_mul] at h2
    omega
theorem two_pow_kq (k : Nat) : 2 ^ k = 2 ^ (k % 32) * Wp (k / 32) := by
  rw [Wp_eq, ← Nat.pow_add]; congr 1; omega
/-- one word more of a list times a power of 2 -/
theorem up_step {a o : List Nat} {i k : Nat} (hok : i + k / 32 + 1 < o.length) (hz : wd o (i + k / 32 + 1) = 0) (h : val o = val (a.take i) * 2 ^ k) :
    val ((o.set (i + k / 32) (wd o (i + k / 32) + shlo (wd a i) (k % 32))).set (i + k / 32 + 1) (shhi (wd a i) (k % 32))) = val (a.take (i + 1)) * 2 ^ k := by
  have h1 := val_set (o := o) (k := i + k / 32) (wd o (i + k / 32) + shlo (wd a i) (k % 32)) (by omega)
  have h2 := val_set (o := o.set (i + k / 32) (wd o (i + k / 32) + shlo (wd a i) (k % 32))) (k := i + k / 32 + 1) (shhi (wd a i) (k % 32)) (by rw [List.length_set]; exact hok)
  rw [wd_set_ne (by omega), hz] at h2
  have e := sh_eq (wd a i) (k % 32)
  generalize shlo (wd a i) (k % 32) = lo at *
  generalize shhi (wd a i) (k % 32) = hi at *
  rw [val_take_succ', Nat.add_mul, ← h]
  have e2 : wd a i * Wp i * 2 ^ k = (lo + hi * 4294967296) * Wp (i + k / 32) := by
    rw [e, two_pow_kq k, Wp_add, Nat.mul_assoc, Nat.mul_assoc]
    congr 1
    rw [← Nat.mul_assoc, Nat.mul_comm (Wp i), Nat.mul_assoc]
  rw [e2, Nat.add_mul, Nat.mul_assoc, ← Wp_succ]
  rw [Nat.add_mul] at h1
  omega
/-- the reference's way: behind the words there is a carry -/
theorem rup_step {a o : List Nat} {i k c : Nat} (ho : o.length = k / 32 + i) (h : val o + c * Wp (k / 32 + i) = val (a.take i) * 2 ^ k) :
    val (o ++ [c + shlo (wd a i) (k % 32)]) + shhi (wd a i) (k % 32) * Wp (k / 32 + (i + 1)) = val (a.take (i + 1)) * 2 ^ k := by
  have e := sh_eq (wd a i) (k % 32)
  generalize shlo (wd a i) (k % 32) = lo at *
  generalize shhi (wd a i) (k % 32) = hi at *
  rw [val_append, ho, val_one, val_take_succ', Nat.add_mul, ← h]
  have e2 : wd a i * Wp i * 2 ^ k = (lo + hi * 4294967296) * Wp (k / 32 + i) := by
    rw [e, two_pow_kq k, Nat.add_comm (k / 32), Wp_add, Nat.mul_assoc, Nat.mul_assoc]
    congr 1
    rw [← Nat.mul_assoc, Nat.mul_comm (Wp i), Nat.mul_assoc]
  rw [e2, Nat.add_mul, Nat.mul_assoc, ← Nat.add_assoc, Wp_succ, Nat.mul_add, Nat.mul_comm (Wp (k / 32 + i)) c, Nat.mul_comm (Wp (k / 32 + i)) lo]
  omega

/-- a word of the quotient by a power of 2 -/
def dnw (x y s : Nat) : Nat := (x + y * 4294967296) / 2 ^ s % 4294967296
theorem dnw_lt (x y s : Nat) : dnw x y s < 4294967296 := Nat.mod_lt _ (by omega)
theorem or_hi {x y : Nat} (h : x < 4294967296) : x ||| (y * 4294967296) = x + y * 4294967296 := by
  have := Nat.two_pow_add_eq_or_of_lt (i := 32) h y
  rw [Nat.or_comm, Nat.mul_comm y, ← this, Nat.add_comm]
theorem two_words {l : List Nat} (h : B32 l) (i : Nat) : wd l i + wd l (i + 1) * 4294967296 = val l / Wp i % (4294967296 * 4294967296) := by
  rw [wd_val h, wd_val h, Wp_succ, Nat.mul_comm 4294967296 (Wp i), ← Nat.div_div_eq_div_mul, Nat.mod_mul]
  omega
theorem dn_word {l : List Nat} (h : B32 l) (k j : Nat) : dnw (wd l (k / 32 + j)) (wd l (k / 32 + j + 1)) (k % 32) = val l / 2 ^ k / Wp j % 4294967296 := by
  unfold dnw
  rw [two_words h, two_pow_kq k, Wp_add]
  generalize val l = n
  have hs : k % 32 < 32 := Nat.mod_lt _ (by omega)
  generalize k % 32 = s at *
  have e1 : n / (2 ^ s * Wp (k / 32)) / Wp j = n / (Wp (k / 32) * Wp j) / 2 ^ s := by
    rw [Nat.div_div_eq_div_mul, Nat.div_div_eq_div_mul]; congr 1
    rw [Nat.mul_assoc, Nat.mul_comm]
  rw [e1]
  generalize n / (Wp (k / 32) * Wp j) = m
  have e2 : 4294967296 * 4294967296 = 2 ^ s * (2 ^ (32 - s) * 4294967296) := by
    rw [← Nat.mul_assoc, Nat.mul_comm (2 ^ s), ← pow_split (Nat.le_of_lt hs)]
  rw [e2, Nat.mod_mul_right_div_self, Nat.mod_mul_left_mod]
theorem val_words {o : List Nat} {r : Nat} (h : ∀ j, j < o.length → wd o j = r / Wp j % 4294967296) (k : Nat) (hk : k ≤ o.length) : val (o.take k) = r % Wp k := by
  induction k with
  | zero => rw [Wp_zero]; simp [val, Nat.mod_one]
  | succ k ih =>
    rw [val_take_succ', ih (by omega), h k (by omega), Wp_succ, Nat.mul_comm 4294967296, Nat.mod_mul, Nat.mul_comm (Wp k)]
theorem val_words_all {o : List Nat} {r : Nat} (h : ∀ j, j < o.length → wd o j = r / Wp j % 4294967296) (hr : r < Wp o.length) : val o = r := by
  have := val_words h o.length (Nat.le_refl _)
  rw [List.take_length, Nat.mod_eq_of_lt hr] at this
  exact this
theorem dn_lt {l : List Nat} (h : B32 l) (k : Nat) : val l / 2 ^ k < Wp (l.length - k / 32) := by
  have h1 := val_lt h
  rw [two_pow_kq k, ← Nat.div_div_eq_div_mul, Nat.div_div_eq_div_mul, Nat.mul_comm, ← Nat.div_div_eq_div_mul]
  refine Nat.lt_of_le_of_lt (Nat.div_le_self _ _) ?_
  by_cases hk : k / 32 ≤ l.length
  · rw [Nat.div_lt_iff_lt_mul (Wp_pos _), ← Wp_add, Nat.sub_add_cancel hk]; exact h1
  · rw [Nat.div_eq_of_lt (Nat.lt_of_lt_of_le h1 (Wp_mono (by omega)))]; exact Wp_pos _
theorem mulpow_cast (x s : Nat) : (x : Int) * 2 ^ s = ((x * 2 ^ s : Nat) : Int) := by simp
theorem shI {x s : Nat} (hx : x < 4294967296) (hs : s < 32) : 0 ≤ (x : Int) * 2 ^ s ∧ (x : Int) * 2 ^ s ≤ 9223372034707292160 := by
  rw [mulpow_cast]
  have h1 := Nat.mul_le_mul (show x ≤ 4294967295 by omega) (pow_le32 hs)
  generalize x * 2 ^ s = p at *
  omega
theorem shlo_int (x s : Nat) : ((x : Int) * 2 ^ s) % 4294967296 = (shlo x s : Int) := by
  rw [mulpow_cast]; unfold shlo; generalize x * 2 ^ s = p; omega
theorem shhi_int (x s : Nat) : ((x : Int) * 2 ^ s) / 4294967296 = (shhi x s : Int) := by
  rw [mulpow_cast]; unfold shhi; generalize x * 2 ^ s = p; omega

def upv (c x s : Nat) : Nat := c + x * 2 ^ s
def uplo (c x s : Nat) : Nat := c + shlo x s
theorem upv_or {c x s : Nat} (h : c < 2 ^ s) : c ||| (x * 2 ^ s) = upv c x s := by
  have := Nat.two_pow_add_eq_or_of_lt h x
  unfold upv
  rw [Nat.or_comm, Nat.mul_comm x, ← this, Nat.add_comm]
theorem uplo_lt {c x s : Nat} (hs : s < 32) (h : c < 2 ^ s) : uplo c x s < 4294967296 := (or_shlo hs h).2
theorem upv_lo {c x s : Nat} (hs : s < 32) (h : c < 2 ^ s) : (upv c x s : Int) % 4294967296 = (uplo c x s : Int) := by
  have h1 := uplo_lt (x := x) hs h
  have h2 := sh_eq x s
  unfold upv; unfold uplo at *
  rw [← h2]; omega
theorem upv_hi {c x s : Nat} (hs : s < 32) (h : c < 2 ^ s) : (upv c x s : Int) / 4294967296 = (shhi x s : Int) := by
  have h1 := uplo_lt (x := x) hs h
  have h2 := sh_eq x s
  unfold upv; unfold uplo at *
  rw [← h2]; omega
theorem shhi_zero (s : Nat) : shhi 0 s = 0 := by unfold shhi; simp
def x2 (x y : Nat) : Nat := x + y * 4294967296
theorem x2_lt {x y : Nat} (hx : x < 4294967296) (hy : y < 4294967296) : x2 x y < 18446744073709551616 := by unfold x2; omega
theorem div_cast (x s : Nat) : (x : Int) / 2 ^ s = ((x / 2 ^ s : Nat) : Int) := by simp
theorem dnw_int (x y s : Nat) : ((x2 x y : Int) / 2 ^ s) % 4294967296 = (dnw x y s : Int) := by
  rw [div_cast]; unfold dnw x2; generalize (x + y * 4294967296) / 2 ^ s = p; omega
theorem dnw_int0 (x s : Nat) : ((x : Int) / 2 ^ s) % 4294967296 = (dnw x 0 s : Int) := by
  rw [div_cast]; unfold dnw; rw [Nat.zero_mul, Nat.add_zero]; generalize x / 2 ^ s = p; omega
/-- the words of a quotient by a power of 2 -/
theorem down_all {a o : List Nat} {k : Nat} (ha : B32 a) (hl : o.length = a.length - k / 32) (h : ∀ j, j < o.length → wd o j = dnw (wd a (k / 32 + j)) (wd a (k / 32 + j + 1)) (k % 32)) : val o = val a / 2 ^ k :=
  val_words_all (fun j hj => by rw [h j hj, dn_word ha]) (by rw [hl]; exact dn_lt ha k)
end Go.Proofs.YtbgggepdlkbpoaaGreatDoor
namespace Go.Proofs.YtbgggepdlkbpoaaGreatDoor
open Go.RowKit


set_option maxHeartbeats 2000000 in
theorem up_any (A : Option Addr) (c n : Nat) (a : List Nat) (w : World) (k : Nat) (hk : k ≤ 1000000) (hn : n = a.length) (ha : RW w w.heap.size A c a) (hla : a.length ≤ 17592186044416) :
    Calls Tryz.prog 26 #[.slice A n c, .int .i64 (k : Int)] w (RetW w (val a * 2 ^ k)) := by
  subst hn
  have ba := ha.b32
  by_cases hl0 : a.length = 0
  · have hl0' : ((a.length : Int) == 0) = true := by simp [hl0]
    have ha0 : a = [] := List.eq_nil_of_length_eq_zero hl0
    have hv : Hid (val a * 2 ^ k = 0) := by show _ = _; subst ha0; simp [val]
    clear hl0 ha0
    go_enter Tryz.func26, Tryz.ntmps26
    go_wp2
    go_ret
    rw [hv.out]
    exact ⟨none, 0, by rw [digs_zero]; rfl, by rw [digs_zero]; exact OW.nil _ _, Below.refl _ _⟩
  · have hl0' : ((a.length : Int) == 0) = false := beq_eq_false_iff_ne.2 (by omega)
    go_enter Tryz.func26, Tryz.ntmps26
    go_wp2_with (at_make; refine wp_makeW _ rfl _ _ rfl .i64 .i64 _ _ (a.length + k / 32 + 1) rfl rfl (by omega) (by omega) (by omega) ?_; intro w1 hO1 hb1 hs1)
    go_loopw [21] (fun iv wr => ∃ (i : Nat) (o : List Nat), i ≤ a.length ∧ iv = .int .i64 (i : Int) ∧ OW wr w.heap.size (some ⟨w.heap.size, 0, none⟩) (a.length + k / 32 + 1) o ∧ Hid (o.length = a.length + k / 32 + 1) ∧
        Hid (val o = val (a.take i) * 2 ^ k) ∧ Hid (wd o (i + k / 32) < 2 ^ (k % 32)) ∧ Hid (∀ t, i + k / 32 + 1 ≤ t → wd o t = 0) ∧ Below w.heap.size w wr) (fun iv _ => (a.length - intOf iv).toNat)
    case atStart => exact ⟨0, _, Nat.zero_le _, rfl, hO1, by show _ = _; simp, by show _ = _; simp [val, val_replicate], by show _ < _; rw [wd_replicate]; exact Nat.pow_pos (by omega), fun t _ => wd_replicate _ t, hb1⟩
    case round =>
      obtain ⟨i, o, hi, rfl, hO, hol, hinv, hlow, hz, hbel⟩ := hrel
      have ha1 := ha.below hbel
      have hwx := wd_lt ba i
      by_cases h0 : i < a.length
      · obtain ⟨b1, o1, rfl, hlt1, hx⟩ := ha1.at_ (by omega)
        have hxk := hx i h0
        have hok : i + k / 32 < o.length := by have := hol.out; omega
        have hoc := hO.cell hok
        have hfz := hO.frozen (i + k / 32)
        have hok2 : i + k / 32 + 1 < o.length := by have := hol.out; omega
        have hoc2 := hO.cell hok2
        have hfz2 := hO.frozen (i + k / 32 + 1)
        have hs32 : k % 32 < 32 := Nat.mod_lt _ (by omega)
        obtain ⟨hm0, hm1⟩ := shI hwx hs32
        have e1 := shlo_int (wd a i) (k % 32)
        have e2 := shhi_int (wd a i) (k % 32)
        obtain ⟨ho1, ho2⟩ := or_shlo (x := wd a i) hs32 hlow.out
        have e3 : bits .or .u32 (wd o (i + k / 32) : Int) (shlo (wd a i) (k % 32) : Int) = ((wd o (i + k / 32) + shlo (wd a i) (k % 32) : Nat) : Int) := by
          rw [u32_or_nat _ _ (by omega) (shlo_lt _ _), ho1]
        have hset := (hO.set (i + k / 32) ho2).set (i + k / 32 + 1) (Nat.lt_of_lt_of_le (shhi_lt (s := k % 32) hwx) (Nat.le_trans (pow_le32 hs32) (by omega)))
        clear hx ha ha1 ho1
        have hst := Lib.hid (up_step (a := a) hok2 (hz.out _ (Nat.le_refl _)) hinv.out)
        have hlow2 : Hid (wd ((o.set (i + k / 32) (wd o (i + k / 32) + shlo (wd a i) (k % 32))).set (i + k / 32 + 1) (shhi (wd a i) (k % 32))) (i + 1 + k / 32) < 2 ^ (k % 32)) := by
          show _ < _
          rw [show i + 1 + k / 32 = i + k / 32 + 1 by omega, wd_set_eq (by rw [List.length_set]; exact hok2)]
          exact shhi_lt hwx
        have hz2 : Hid (∀ t, i + 1 + k / 32 + 1 ≤ t → wd ((o.set (i + k / 32) (wd o (i + k / 32) + shlo (wd a i) (k % 32))).set (i + k / 32 + 1) (shhi (wd a i) (k % 32))) t = 0) := fun t ht => by
          rw [wd_set_ne (by omega), wd_set_ne (by omega)]; exact hz.out t (by omega)
        have hbel2 := (hbel.setCell (p := ⟨w.heap.size, i + k / 32, none⟩) (Nat.le_refl _) (.int .u32 ((wd o (i + k / 32) + shlo (wd a i) (k % 32) : Nat) : Int))).setCell (p := ⟨w.heap.size, i + k / 32 + 1, none⟩) (Nat.le_refl _) (.int .u32 (shhi (wd a i) (k % 32) : Nat))
        simp only [Int.natCast_add] at hset hbel2
        go_wp2
        go_roundw
        case rel => exact ⟨i + 1, _, by omega, by go_num, hset, by show _ = _; rw [List.length_set, List.length_set]; exact hol.out, hst, hlow2, hz2, hbel2⟩
        case measure => simp [intOf]; omega
      · obtain rfl : i = a.length := by omega
        have hfin : Hid (val o = val a * 2 ^ k) := by have := hinv.out; rw [List.take_length] at this; exact this
        have hO2 := hO.rw
        go_wp2_with (go_at_call 49; refine (norm_any _ _ _ o _ hol.out.symm hO2).mono ?_; rintro e w' ⟨rfl, rfl⟩)
        go_ret
        have hn := hO.norm
        rw [hfin.out] at hn ⊢
        exact ⟨_, _, rfl, hn, hbel⟩
end Go.Proofs.YtbgggepdlkbpoaaGreatDoor
namespace Go.Proofs.YtbgggepdlkbpoaaGreatDoor
open Go.RowKit

theorem rup_end {a o : List Nat} {k c : Nat} (hc : c = 0) (h : val o + c * Wp (k / 32 + (a.length + 1)) = val (a.take (a.length + 1)) * 2 ^ k) : val o = val a * 2 ^ k := by
  subst hc; rw [val_take_all (by omega)] at h; omega

/-- slices.Clone -/
theorem clone_any (A : Option Addr) (c n : Nat) (l : List Nat) (w : World) (hn : n = l.length) (h : RW w w.heap.size A c l) :
    Calls Tryz.prog 65 #[.slice A n c] w fun e w' => ∃ A' c', e = .returned (.slice A' l.length c') ∧ OW w' w.heap.size A' c' l ∧ Below w.heap.size w w' := by
  subst hn
  have hbig := h.big
  have q22 : ∀ (w : World) (a : Option Addr) (n c n' c' : Nat), (binOp .eql 22 (.slice a n c) (.slice none n' c')).run Tryz.prog w = .ok (.bool a.isNone) w := fun w a n c n' c' => Lib.run_eql_slice_nil w _ _ a n c n' c' Tryz.underlying22
  rcases A with _ | ad
  · have hl0 : l = [] := by
      rcases Nat.eq_zero_or_pos l.length with h0 | h0
      · exact List.eq_nil_of_length_eq_zero h0
      · obtain ⟨_, _, e, _⟩ := h.at_ h0; cases e
    subst hl0
    go_enter Tryz.func65, Tryz.ntmps65
    go_wp2
    go_ret
    exact ⟨none, 0, rfl, OW.nil _ _, Below.refl _ _⟩
  · have hb1 : Below w.heap.size w (w.alloc (.cells #[] 55)) := (Below.refl _ _).alloc (Nat.le_refl _) _
    have hr := h.below hb1
    clear h
    go_enter Tryz.func65, Tryz.ntmps65
    go_wp2_with (at_builtin; refine wp_appW _ rfl _ _ rfl w.heap.size _ _ _ [] rfl rfl (OW.empty w) _ _ _ l rfl rfl _ hr (by simp; omega) (by simp) ?_; intro A' c' w' h1 h2 h3)
    go_ret
    exact ⟨A', c', ret_slice (by simp), h1, hb1.trans h3⟩
end Go.Proofs.YtbgggepdlkbpoaaGreatDoor
