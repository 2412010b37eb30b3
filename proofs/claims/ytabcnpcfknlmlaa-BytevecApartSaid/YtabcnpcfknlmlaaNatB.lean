/- Walks: Order, Same, word, Add32, Sub32. -/
import Derived.Test.YtabcnpcfknlmlaaNatA
namespace Go.Proofs.Ytabcnpcfknlmlaa
open Go.RowKit

/-- what the order of two lists of one length comes to, at the highest word that differs -/
theorem ord_top {a b : List Nat} (ha : B32 a) (hb : B32 b) {j : Nat} (hj : j < a.length) (hl : a.length = b.length) (hd : a.drop (j + 1) = b.drop (j + 1)) :
    (wd a j < wd b j → cmpN (val a) (val b) = -1) ∧ (wd b j < wd a j → cmpN (val a) (val b) = 1) :=
  ⟨fun h => cmpN_lt (top_lt ha (by omega) h hd.symm hj hl.symm), fun h => cmpN_gt (top_lt hb hj h hd (by omega) hl)⟩
theorem ord_step {a b : List Nat} {j : Nat} (hj : j < a.length) (hl : a.length = b.length) (hd : a.drop (j + 1) = b.drop (j + 1)) (h : wd a j = wd b j) : a.drop j = b.drop j := by
  rw [drop_wd hj, drop_wd (by omega : j < b.length), hd, h]

theorem drw {w : World} (a b : Nat) : ∃ q, (w.drewN a).drewN b = w.drewN q := ⟨_, World.drewN_drewN _ _ _⟩
theorem drw3 {w : World} (a b c : Nat) : ∃ q, ((w.drewN a).drewN b).drewN c = w.drewN q := ⟨_, by rw [World.drewN_drewN, World.drewN_drewN]⟩

set_option maxHeartbeats 1000000 in
theorem order_any (A D : Option Addr) (c d n m : Nat) (a b : List Nat) (w : World) (hn : n = a.length) (hm : m = b.length) (ha : RW w w.heap.size A c a) (hb : RW w w.heap.size D d b) (na : Nrm a) (nb : Nrm b) :
    Calls Try.prog 66 #[.slice A n c, .slice D m d] w fun e w' => e = .returned (.int .i64 (cmpN (val a) (val b))) ∧ ∃ q, w' = w.drewN q := by
  subst hn hm
  have hba := ha.big
  have hbb := hb.big
  have ba := ha.b32
  have bb := hb.b32
  by_cases hlen : a.length = b.length
  · have hl1 : ((a.length : Int) != (b.length : Int)) = false := by simp; omega
    have HL := Lib.hid hlen
    have hlt : ¬ a.length < b.length := by omega
    have hgt : ¬ b.length < a.length := by omega
    clear hlen
    go_enter Try.func66, Try.ntmps66
    go_wp2
    go_loopw [5] (fun i wr => ∃ k : Nat, k ≤ a.length ∧ i = .int .i64 ((k : Int) - 1) ∧ Hid (a.drop k = b.drop k) ∧ ∃ q, wr = w.drewN q) (fun i _ => (intOf i + 1).toNat)
    case atStart => exact ⟨a.length, Nat.le_refl _, rfl, by show _ = _; rw [List.drop_length, HL.out, List.drop_length], 0, rfl⟩
    case round =>
      obtain ⟨k, hk, rfl, hk2, q, rfl⟩ := hrel
      by_cases h0 : 0 < k
      · obtain ⟨b1, o1, rfl, _, hx⟩ := ha.at_ (by omega)
        obtain ⟨b2, o2, rfl, _, hy⟩ := hb.at_ (by omega)
        obtain ⟨j, rfl⟩ : ∃ j, k = j+1 := ⟨k-1, by omega⟩
        have hxk := hx j (by omega)
        have hyk := hy j (by omega)
        clear ha hb hx hy
        have hj1 : (0 : Int) ≤ ((j + 1 : Nat) : Int) - 1 := by omega
        have HO := Lib.hid (ord_top ba bb (by omega) HL.out hk2.out)
        rcases Nat.lt_trichotomy (wd a j) (wd b j) with h1 | h1 | h1
        · have t1 : decide ((wd a j : Int) < (wd b j : Int)) = true := by simp; omega
          have HR := Lib.hid (HO.out.1 h1)
          go_wp2
          go_quiet (fail)
          go_wp2
          go_ret
          exact ⟨by rw [HR.out]; rfl, drw _ _⟩
        · have t1 : decide (wd a j < wd b j) = false := by simp; omega
          have t2 : decide (wd b j < wd a j) = false := by simp; omega
          have HR := Lib.hid (ord_step (by omega) HL.out hk2.out h1)
          clear h1
          go_wp2
          go_quiet (fail)
          go_wp2
          go_quiet (fail)
          go_wp2
          go_roundw
          case rel => exact ⟨j, by omega, by go_num, HR, _, rfl⟩
          case measure => simp [intOf]
        · have t1 : decide (wd a j < wd b j) = false := by simp; omega
          have HR := Lib.hid (HO.out.2 h1)
          go_wp2
          go_quiet (fail)
          go_wp2
          go_quiet (fail)
          go_wp2
          go_ret
          exact ⟨by rw [HR.out]; rfl, drw3 _ _ _⟩
      · obtain rfl : k = 0 := by omega
        go_wp2
        go_ret
        refine ⟨?_, q, rfl⟩
        have h2 := hk2.out
        rw [List.drop_zero, List.drop_zero] at h2
        exact ret_int (by rw [h2, cmpN_self])
  · have hl1 : ((a.length : Int) != (b.length : Int)) = true := by simp; omega
    by_cases hlt : a.length < b.length
    · have HR := Lib.hid (cmpN_lt (len_lt ba nb hlt))
      go_enter Try.func66, Try.ntmps66
      go_wp2
      go_ret
      exact ⟨by rw [HR.out]; rfl, 0, rfl⟩
    · have HR := Lib.hid (cmpN_gt (len_lt bb na (by omega)))
      go_enter Try.func66, Try.ntmps66
      go_wp2
      go_ret
      exact ⟨by rw [HR.out]; rfl, 0, rfl⟩

theorem same_step {a b : List Nat} {j : Nat} (hj : j < a.length) (hl : a.length = b.length) (hd : a.take j = b.take j) (h : wd a j = wd b j) : a.take (j + 1) = b.take (j + 1) := by
  rw [take_succ_wd hj, take_succ_wd (by omega : j < b.length), hd, h]

set_option maxHeartbeats 1000000 in
theorem same_any (A D : Option Addr) (c d n m : Nat) (a b : List Nat) (w : World) (hn : n = a.length) (hm : m = b.length) (ha : RW w w.heap.size A c a) (hb : RW w w.heap.size D d b) :
    Calls Try.prog 64 #[.slice A n c, .slice D m d] w fun e w' => e = .returned (.bool (decide (a = b))) ∧ ∃ q, w' = w.drewN q := by
  subst hn hm
  have hba := ha.big
  have hbb := hb.big
  by_cases hlen : a.length = b.length
  · have hl1 : ((a.length : Int) != (b.length : Int)) = false := by simp; omega
    have HL := Lib.hid hlen
    have hlt : ¬ a.length < b.length := by omega
    have hgt : ¬ b.length < a.length := by omega
    clear hlen
    go_enter Try.func64, Try.ntmps64
    go_wp2
    go_loopw [5] (fun i wr => ∃ k : Nat, k ≤ a.length ∧ i = .int .i64 (k : Int) ∧ Hid (a.take k = b.take k) ∧ ∃ q, wr = w.drewN q) (fun i _ => (a.length - intOf i).toNat)
    case atStart => exact ⟨0, Nat.zero_le _, rfl, rfl, 0, rfl⟩
    case round =>
      obtain ⟨k, hk, rfl, hk2, q, rfl⟩ := hrel
      by_cases h0 : k < a.length
      · obtain ⟨b1, o1, rfl, _, hx⟩ := ha.at_ (by omega)
        obtain ⟨b2, o2, rfl, _, hy⟩ := hb.at_ (by omega)
        have hxk := hx k (by omega)
        have hyk := hy k (by omega)
        clear ha hb hx hy
        by_cases h1 : wd a k = wd b k
        · have t1 : ((wd a k : Int) != (wd b k : Int)) = false := by simp; omega
          have HR := Lib.hid (same_step h0 HL.out hk2.out h1)
          clear h1
          go_wp2
          go_quiet (fail)
          go_wp2
          go_roundw
          case rel => exact ⟨k + 1, by omega, by go_num, HR, _, rfl⟩
          case measure => simp [intOf]; omega
        · have t1 : ((wd a k : Int) != (wd b k : Int)) = true := by simp; omega
          go_wp2
          go_quiet (fail)
          go_wp2
          go_ret
          refine ⟨ret_bool ?_, drw _ _⟩
          rw [decide_eq_false (fun e => h1 (by rw [e]))]
      · obtain rfl : k = a.length := by omega
        go_wp2
        go_ret
        refine ⟨?_, q, rfl⟩
        have h2 := hk2.out
        rw [List.take_length, HL.out, List.take_length] at h2
        exact ret_bool (by rw [decide_eq_true h2])
  · have hl1 : ((a.length : Int) != (b.length : Int)) = true := by simp; omega
    go_enter Try.func64, Try.ntmps64
    go_wp2
    go_ret
    exact ⟨ret_bool (by rw [decide_eq_false (fun e => hlen (by rw [e]))]), 0, rfl⟩

theorem word_any (A : Option Addr) (c n : Nat) (a : List Nat) (w : World) (i : Int) (hi : 0 ≤ i) (hn : n = a.length) (ha : RW w w.heap.size A c a) :
    Calls Try.prog 58 #[.slice A n c, .int .i64 i] w fun e w' => e = .returned (.int .u64 (wd a i.toNat)) ∧ w = w' := by
  subst hn
  obtain ⟨k, rfl⟩ := Int.eq_ofNat_of_zero_le hi
  rw [Int.toNat_natCast]
  have hba := ha.big
  have hwd := wd_lt ha.b32 k
  by_cases h0 : k < a.length
  · obtain ⟨b1, o1, rfl, _, hx⟩ := ha.at_ (by omega)
    have hxk := hx k (by omega)
    clear ha hx
    go_enter Try.func58, Try.ntmps58
    go_wp2
    go_ret
    exact ⟨rfl, rfl⟩
  · have HW := Lib.hid (wd_out (l := a) (k := k) (by omega))
    go_enter Try.func58, Try.ntmps58
    go_wp2
    go_ret
    exact ⟨by rw [HW.out]; rfl, rfl⟩

theorem add32_any (x y z : Nat) (w : World) (hx2 : x < 4294967296) (hy2 : y < 4294967296) (hz2 : z ≤ 1) :
    Calls Try.prog 85 #[.int .u32 x, .int .u32 y, .int .u32 z] w fun e w' => e = .returned (.tuple #[.int .u32 (addf x y z), .int .u32 (addc x y z)]) ∧ w = w' := by
  have e1 : ((x : Int) + y + z) % 4294967296 = (addf x y z : Int) := by unfold addf; omega
  have e2 : ((x : Int) + y + z) / 4294967296 = (addc x y z : Int) := by unfold addc; omega
  have E1 := Lib.hid e1
  have E2 := Lib.hid e2
  clear e1 e2
  go_enter Try.func85, Try.ntmps85
  go_wp2
  go_ret2
  refine ⟨?_, rfl⟩
  rw [← E1.out, ← E2.out]
  rfl

theorem sub32_any (x y z : Nat) (w : World) (hx2 : x < 4294967296) (hy2 : y < 4294967296) (hz2 : z ≤ 1) :
    Calls Try.prog 56 #[.int .u32 x, .int .u32 y, .int .u32 z] w fun e w' => e = .returned (.tuple #[.int .u32 (sdf32 x y z), .int .u32 (bor32 x y z)]) ∧ w = w' := by
  go_enter Try.func56, Try.ntmps56
  go_wp2
  have hd : ((x : Int) - y - z) % 4294967296 = (sdf32 x y z : Int) := by unfold sdf32; omega
  have hdl : sdf32 x y z < 4294967296 := by unfold sdf32; omega
  have hmax : IntKind.u32.max = ((4294967295 : Nat) : Int) := rfl
  have hb := sub_borrow hx2 hy2 hz2 (d := sdf32 x y z) rfl
  rw [hd, hmax]
  generalize sdf32 x y z = d at *
  have h1 : (4294967295 ^^^ x) < 2 ^ 32 := Nat.xor_lt_two_pow (by omega) (by omega)
  have h0 : (x ^^^ y) < 2 ^ 32 := Nat.xor_lt_two_pow (by omega) (by omega)
  have h2 : (4294967295 ^^^ (x ^^^ y)) < 2 ^ 32 := Nat.xor_lt_two_pow (by omega) (by omega)
  have h3 : ((4294967295 ^^^ x) &&& y) < 2 ^ 32 := Nat.and_lt_two_pow _ (by omega)
  have h4 : ((4294967295 ^^^ (x ^^^ y)) &&& d) < 2 ^ 32 := Nat.and_lt_two_pow _ (by omega)
  rw [u32_xor_nat 4294967295 x (by omega) hx2, u32_xor_nat x y hx2 hy2, u32_xor_nat 4294967295 (x ^^^ y) (by omega) (by omega), u32_and_nat _ y (by omega) hy2, u32_and_nat _ d (by omega) hdl, u32_or_nat _ _ (by omega) (by omega)]
  go_ret2
  refine ⟨?_, rfl⟩
  rw [← hb]
  rfl
end Go.Proofs.Ytabcnpcfknlmlaa
