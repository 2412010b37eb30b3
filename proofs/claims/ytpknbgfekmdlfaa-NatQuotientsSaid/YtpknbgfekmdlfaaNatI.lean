/- Walks: the reference's Order; Sub, Cmp, Of of both. -/
import Derived.Test.YtpknbgfekmdlfaaNatH
namespace Go.Proofs.Ytpknbgfekmdlfaa
open Go.RowKit

set_option maxHeartbeats 1000000 in
theorem rorder_any (A D : Option Addr) (c d n m : Nat) (a b : List Nat) (w : World) (hn : n = a.length) (hm : m = b.length) (ha : RW w w.heap.size A c a) (hb : RW w w.heap.size D d b) (na : Nrm a) (nb : Nrm b) :
    Calls Try.prog 50 #[.slice A n c, .slice D m d] w fun e w' => e = .returned (.int .i64 (cmpN (val a) (val b))) ∧ ∃ q, w' = w.drewN q := by
  subst hn hm
  have hba := ha.big
  have hbb := hb.big
  have ba := ha.b32
  have bb := hb.b32
  by_cases hlen : a.length = b.length
  · have hl1 : True := trivial
    have HL := Lib.hid hlen
    have hlt : ¬ a.length < b.length := by omega
    have hgt : ¬ b.length < a.length := by omega
    clear hlen
    go_enter Try.func50, Try.ntmps50
    go_wp2
    go_loopw [5] (fun i wr => ∃ k : Nat, k ≤ a.length ∧ i = .int .i64 ((k : Int) - 1) ∧ Hid (a.drop k = b.drop k) ∧ ∃ q, wr = w.drewN q) (fun i _ => (intOf i + 1).toNat)
    case atStart => exact ⟨a.length, Nat.le_refl _, rfl, by show _ = _; rw [List.drop_length, HL.out, List.drop_length], 0, rfl⟩
    case round =>
      obtain ⟨k, hk, rfl, hk2, q, rfl⟩ := hrel
      by_cases h0 : 0 < k
      · obtain ⟨b1, o1, rfl, _, hx⟩ := ha.at_ (by omega)
        obtain ⟨b2, o2, rfl, _, hy⟩ := hb.at_ (by omega)
        obtain ⟨j, rfl⟩ : ∃ j, k = j+1 := ⟨k-1, by omega⟩
        have hxk := hx j (by omega)
        have hyk := hy j (by omega)
        clear ha hb hx hy
        have hj1 : (0 : Int) ≤ ((j + 1 : Nat) : Int) - 1 := by omega
        have HO := Lib.hid (ord_top ba bb (by omega) HL.out hk2.out)
        rcases Nat.lt_trichotomy (wd a j) (wd b j) with h1 | h1 | h1
        · have t2 : decide (wd b j < wd a j) = false := by simp; omega
          have HR := Lib.hid (HO.out.1 h1)
          go_wp2
          go_quiet (fail)
          go_wp2
          go_quiet (fail)
          go_wp2
          go_ret
          exact ⟨by rw [HR.out]; rfl, drw3 _ _ _⟩
        · have t1 : decide (wd a j < wd b j) = false := by simp; omega
          have t2 : decide (wd b j < wd a j) = false := by simp; omega
          have HR := Lib.hid (ord_step (by omega) HL.out hk2.out h1)
          clear h1
          go_wp2
          go_quiet (fail)
          go_wp2
          go_quiet (fail)
          go_wp2
          go_roundw
          case rel => exact ⟨j, by omega, by go_num, HR, _, rfl⟩
          case measure => simp [intOf]
        · have HR := Lib.hid (HO.out.2 h1)
          go_wp2
          go_quiet (fail)
          go_wp2
          go_ret
          exact ⟨by rw [HR.out]; rfl, drw _ _⟩
      · obtain rfl : k = 0 := by omega
        go_wp2
        go_ret
        refine ⟨?_, q, rfl⟩
        have h2 := hk2.out
        rw [List.drop_zero, List.drop_zero] at h2
        exact ret_int (by rw [h2, cmpN_self])
  · by_cases hlt : a.length < b.length
    · have HR := Lib.hid (cmpN_lt (len_lt ba nb hlt))
      go_enter Try.func50, Try.ntmps50
      go_wp2
      go_ret
      exact ⟨by rw [HR.out]; rfl, 0, rfl⟩
    · have HR := Lib.hid (cmpN_gt (len_lt bb na (by omega)))
      go_enter Try.func50, Try.ntmps50
      go_wp2
      go_ret
      exact ⟨by rw [HR.out]; rfl, 0, rfl⟩


theorem len_of_le {a b : List Nat} (ha : B32 a) (nb : Nrm b) (h : val b ≤ val a) : b.length ≤ a.length := by
  rcases Nat.lt_or_ge a.length b.length with h1 | h1
  · have := len_lt ha nb h1; omega
  · exact h1
def subA (a b : List Nat) : Nat × Int := if chk2 a b then (if val a < val b then (0, 1) else (val a - val b, 0)) else (0, 2)

set_option maxHeartbeats 1000000 in
theorem sub_any (A D : Option Addr) (c d n m : Nat) (a b : List Nat) (w : World) (hn : n = a.length) (hm : m = b.length) (ha : RW w w.heap.size A c a) (hb : RW w w.heap.size D d b) :
    Calls Try.prog 18 #[.slice A n c, .slice D m d] w (RetE w (subA a b)) := by
  subst hn hm
  have hck := check2_any A D c d a b w 22 ha hb
  have hb2 : Below w.heap.size w (w.alloc (.cells #[.slice A a.length c, .slice D b.length d] 22)) := (Below.refl _ _).alloc (Nat.le_refl _) _
  unfold subA
  cases hc : chk2 a b with
  | true =>
    rw [hc] at hck
    obtain ⟨k1, k2, k3, k4⟩ := big_of_chk hc
    clear hc
    have ha2 := ha.step hb2 (B' := w.heap.size + 1) (by omega)
    have hb3 := hb.step hb2 (B' := w.heap.size + 1) (by omega)
    have hp := order_any A D c d _ _ a b _ rfl rfl (ha2.more (by simp)) (hb3.more (by simp)) (Nrm_of_digs k3) (Nrm_of_digs k4)
    simp only [if_true] at hck ⊢
    by_cases hlt : val a < val b
    · rw [if_pos hlt]
      rw [cmpN_lt hlt] at hp
      clear hlt k3 k4
      go_enter Try.func18, Try.ntmps18
      go_wp2_with fail
      refine hck.mono ?_; rintro e w' ⟨rfl, rfl⟩
      go_wp2_with fail
      refine hp.mono ?_; rintro e w2 ⟨rfl, q, rfl⟩
      go_wp2_with fail
      go_ret2
      exact ret_nil 1 (bdN hb2 q)
    · rw [if_neg hlt]
      have hle2 : val b ≤ val a := by omega
      have hll := len_of_le ha.b32 (Nrm_of_digs k4) hle2
      have hc0 : 0 ≤ cmpN (val a) (val b) := by unfold cmpN; split <;> (try split) <;> omega
      clear k3 k4
      generalize cmpN (val a) (val b) = cmp at *
      go_enter Try.func18, Try.ntmps18
      go_wp2_with fail
      refine hck.mono ?_; rintro e w' ⟨rfl, rfl⟩
      go_wp2_with fail
      refine hp.mono ?_; rintro e w2 ⟨rfl, q, rfl⟩
      go_wp2_with fail
      refine (less_any A D c d _ _ a b _ rfl rfl ((ha2.drewN q).more (by simp)) ((hb3.drewN q).more (by simp)) hll hle2).mono ?_; rintro e w3 ⟨A', c', rfl, hO, hbe⟩
      go_wp2_with fail
      go_ret2
      have hb4 := bdN hb2 q
      exact ⟨A', c', rfl, hO.base_le hb4.size, hb4.trans (hbe.mono hb4.size)⟩
  | false =>
    rw [hc] at hck
    clear hc
    go_enter Try.func18, Try.ntmps18
    go_wp2_with fail
    refine hck.mono ?_; rintro e w' ⟨rfl, rfl⟩
    go_wp2_with fail
    go_ret2
    exact ret_nil 2 hb2

set_option maxHeartbeats 1000000 in
theorem rsub_any (A D : Option Addr) (c d n m : Nat) (a b : List Nat) (w : World) (hn : n = a.length) (hm : m = b.length) (ha : RW w w.heap.size A c a) (hb : RW w w.heap.size D d b) :
    Calls Try.prog 19 #[.slice A n c, .slice D m d] w (RetE w (subA a b)) := by
  subst hn hm
  have hck := rcheck_any A D c d _ _ a b w rfl rfl ha hb
  have hb2 : Below w.heap.size w w := Below.refl _ _
  unfold subA
  cases hc : chk2 a b with
  | true =>
    rw [hc] at hck
    obtain ⟨k1, k2, k3, k4⟩ := big_of_chk hc
    clear hc
    have ha2 := ha
    have hb3 := hb
    have hp := rorder_any A D c d _ _ a b _ rfl rfl ha hb (Nrm_of_digs k3) (Nrm_of_digs k4)
    simp only [if_true] at hck ⊢
    by_cases hlt : val a < val b
    · rw [if_pos hlt]
      rw [cmpN_lt hlt] at hp
      clear hlt k3 k4
      go_enter Try.func19, Try.ntmps19
      go_wp2_with fail
      refine hck.mono ?_; rintro e w' ⟨rfl, rfl⟩
      go_wp2_with fail
      refine hp.mono ?_; rintro e w2 ⟨rfl, q, rfl⟩
      go_wp2_with fail
      go_ret2
      exact ret_nil 1 (bdN hb2 q)
    · rw [if_neg hlt]
      have hle2 : val b ≤ val a := by omega
      have hll := len_of_le ha.b32 (Nrm_of_digs k4) hle2
      have hc0 : 0 ≤ cmpN (val a) (val b) := by unfold cmpN; split <;> (try split) <;> omega
      clear k3 k4
      generalize cmpN (val a) (val b) = cmp at *
      go_enter Try.func19, Try.ntmps19
      go_wp2_with fail
      refine hck.mono ?_; rintro e w' ⟨rfl, rfl⟩
      go_wp2_with fail
      refine hp.mono ?_; rintro e w2 ⟨rfl, q, rfl⟩
      go_wp2_with fail
      refine (rless_any A D c d _ _ a b _ rfl rfl (ha.drewN q) (hb.drewN q) hll hle2 (by omega)).mono ?_; rintro e w3 ⟨A', c', rfl, hO, hbe⟩
      go_wp2_with fail
      go_ret2
      have hb4 := bdN hb2 q
      exact ⟨A', c', rfl, hO.base_le hb4.size, hb4.trans (hbe.mono hb4.size)⟩
  | false =>
    rw [hc] at hck
    clear hc
    go_enter Try.func19, Try.ntmps19
    go_wp2_with fail
    refine hck.mono ?_; rintro e w' ⟨rfl, rfl⟩
    go_wp2_with fail
    go_ret2
    exact ret_nil 2 hb2

def cmpA (a b : List Nat) : Int := if chk2 a b then cmpN (val a) (val b) else 0
theorem cmp_any (A D : Option Addr) (c d n m : Nat) (a b : List Nat) (w : World) (hn : n = a.length) (hm : m = b.length) (ha : RW w w.heap.size A c a) (hb : RW w w.heap.size D d b) :
    Calls Try.prog 20 #[.slice A n c, .slice D m d] w fun e w' => e = .returned (.int .i64 (cmpA a b)) ∧ ∃ q, w' = w.drewN q := by
  have h1 := sound_any A c n a w hn ha
  have h2 := sound_any D d m b w hm hb
  unfold cmpA
  cases hs : soundB a with
  | true =>
    cases hs2 : soundB b with
    | true =>
      have hc : chk2 a b = true := by simp [chk2, hs, hs2]
      obtain ⟨k1, k2, k3, k4⟩ := big_of_chk hc
      rw [hc]
      have hp := order_any A D c d n m a b w hn hm ha hb (Nrm_of_digs k3) (Nrm_of_digs k4)
      rw [hs] at h1; rw [hs2] at h2
      clear hs hs2 hc k3 k4
      subst hn hm
      simp only [if_true]
      go_enter Try.func20, Try.ntmps20
      go_wp2_with fail
      refine h1.mono ?_; rintro e w' ⟨rfl, rfl⟩
      go_wp2_with fail
      refine h2.mono ?_; rintro e w' ⟨rfl, rfl⟩
      go_wp2_with fail
      refine hp.mono ?_; rintro e w' ⟨rfl, q, rfl⟩
      go_wp2_with fail
      go_ret
      exact ⟨rfl, q, rfl⟩
    | false =>
      have hc : chk2 a b = false := by simp [chk2, hs, hs2]
      rw [hc]
      rw [hs] at h1; rw [hs2] at h2
      clear hs hs2 hc
      subst hn hm
      go_enter Try.func20, Try.ntmps20
      go_wp2_with fail
      refine h1.mono ?_; rintro e w' ⟨rfl, rfl⟩
      go_wp2_with fail
      refine h2.mono ?_; rintro e w' ⟨rfl, rfl⟩
      go_wp2_with fail
      go_ret
      exact ⟨rfl, 0, rfl⟩
  | false =>
    have hc : chk2 a b = false := by simp [chk2, hs]
    rw [hc]
    rw [hs] at h1
    clear hs hc
    subst hn hm
    go_enter Try.func20, Try.ntmps20
    go_wp2_with fail
    refine h1.mono ?_; rintro e w' ⟨rfl, rfl⟩
    go_wp2_with fail
    go_ret
    exact ⟨rfl, 0, rfl⟩

theorem rcmp_any (A D : Option Addr) (c d n m : Nat) (a b : List Nat) (w : World) (hn : n = a.length) (hm : m = b.length) (ha : RW w w.heap.size A c a) (hb : RW w w.heap.size D d b) :
    Calls Try.prog 21 #[.slice A n c, .slice D m d] w fun e w' => e = .returned (.int .i64 (cmpA a b)) ∧ ∃ q, w' = w.drewN q := by
  have hck := rcheck_any A D c d n m a b w hn hm ha hb
  unfold cmpA
  cases hc : chk2 a b with
  | true =>
    rw [hc] at hck
    obtain ⟨k1, k2, k3, k4⟩ := big_of_chk hc
    have hp := rorder_any A D c d n m a b w hn hm ha hb (Nrm_of_digs k3) (Nrm_of_digs k4)
    clear hc k3 k4
    subst hn hm
    simp only [if_true] at hck ⊢
    go_enter Try.func21, Try.ntmps21
    go_wp2_with fail
    refine hck.mono ?_; rintro e w' ⟨rfl, rfl⟩
    go_wp2_with fail
    refine hp.mono ?_; rintro e w' ⟨rfl, q, rfl⟩
    go_wp2_with fail
    go_ret
    exact ⟨rfl, q, rfl⟩
  | false =>
    rw [hc] at hck
    clear hc
    subst hn hm
    go_enter Try.func21, Try.ntmps21
    go_wp2_with fail
    refine hck.mono ?_; rintro e w' ⟨rfl, rfl⟩
    go_wp2_with fail
    go_ret
    exact ⟨rfl, 0, rfl⟩

def lo32 (n : Nat) : Nat := n % 4294967296
def hi32 (n : Nat) : Nat := n / 4294967296
theorem val_of (n : Nat) : val [lo32 n, hi32 n] = n := by simp only [val, lo32, hi32]; omega
theorem of_any (n : Int) (w : World) (h0 : 0 ≤ n) (h1 : n ≤ 18446744073709551615) : Calls Try.prog 24 #[.int .u64 n] w (RetW w n.toNat) := by
  obtain ⟨k, rfl⟩ := Int.eq_ofNat_of_zero_le h0
  rw [Int.toNat_natCast]
  have e1 : ((k : Int)) % 4294967296 = (lo32 k : Int) := by unfold lo32; omega
  have e2 : ((k : Int)) / 4294967296 = (hi32 k : Int) := by unfold hi32; omega
  have hl : lo32 k < 4294967296 := by unfold lo32; omega
  have hh : hi32 k < 4294967296 := by unfold hi32; omega
  have hO := OW.lit w [lo32 k, hi32 k] (by simp) (B32_cons hl (B32_cons hh B32_nil))
  have hb : Below w.heap.size w (w.alloc (.cells ([lo32 k, hi32 k].map fw).toArray 33)) := (Below.refl _ _).alloc (Nat.le_refl _) _
  have hn := norm_any (some ⟨w.heap.size, 0, none⟩) 2 2 [lo32 k, hi32 k] _ rfl hO.rw
  rw [val_of] at hn
  have hN := hO.norm
  rw [val_of] at hN
  go_enter Try.func24, Try.ntmps24
  go_wp2_with fail
  refine hn.mono ?_; rintro e w' ⟨rfl, rfl⟩
  go_wp2_with fail
  go_ret
  exact ⟨_, _, rfl, hN, hb⟩
theorem rof_any (n : Int) (w : World) (h0 : 0 ≤ n) (h1 : n ≤ 18446744073709551615) : Calls Try.prog 25 #[.int .u64 n] w (RetW w n.toNat) := by
  obtain ⟨k, rfl⟩ := Int.eq_ofNat_of_zero_le h0
  rw [Int.toNat_natCast]
  have e1 : ((k : Int)) % 4294967296 = (lo32 k : Int) := by unfold lo32; omega
  have e2 : ((k : Int)) / 4294967296 = (hi32 k : Int) := by unfold hi32; omega
  have hl : lo32 k < 4294967296 := by unfold lo32; omega
  have hh : hi32 k < 4294967296 := by unfold hi32; omega
  have hO := OW.lit w [lo32 k, hi32 k] (by simp) (B32_cons hl (B32_cons hh B32_nil))
  have hb : Below w.heap.size w (w.alloc (.cells ([lo32 k, hi32 k].map fw).toArray 33)) := (Below.refl _ _).alloc (Nat.le_refl _) _
  have hn := rnorm_any (some ⟨w.heap.size, 0, none⟩) 2 2 [lo32 k, hi32 k] _ rfl hO.rw
  rw [val_of] at hn
  go_enter Try.func25, Try.ntmps25
  go_wp2_with fail
  refine hn.mono ?_; rintro e w' ⟨A', c', rfl, hO', hb'⟩
  go_wp2_with fail
  go_ret
  exact ⟨_, _, rfl, hO'.base_le hb.size, hb.trans (hb'.mono hb.size)⟩
end Go.Proofs.Ytpknbgfekmdlfaa
