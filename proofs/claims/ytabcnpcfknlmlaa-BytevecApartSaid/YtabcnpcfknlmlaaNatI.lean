/- Walks: the reference's Order; Sub, Cmp, Of of both. -/
import Derived.Test.YtabcnpcfknlmlaaNatH
namespace Go.Proofs.Ytabcnpcfknlmlaa
open Go.RowKit

set_option maxHeartbeats 1000000 in
theorem rorder_any (A D : Option Addr) (c d n m : Nat) (a b : List Nat) (w : World) (hn : n = a.length) (hm : m = b.length) (ha : RW w w.heap.size A c a) (hb : RW w w.heap.size D d b) (na : Nrm a) (nb : Nrm b) :
    Calls Try.prog 62 #[.slice A n c, .slice D m d] w fun e w' => e = .returned (.int .i64 (cmpN (val a) (val b))) ∧ ∃ q, w' = w.drewN q := by
  subst hn hm
  have hba := ha.big
  have hbb := hb.big
  have ba := ha.b32
  have bb := hb.b32
  by_cases hlen : a.length = b.length
  · have hl1 : True := trivial
    have HL := Lib.hid hlen
    have hlt : ¬ a.length < b.length := by omega
    have hgt : ¬ b.length < a.length := by omega
    clear hlen
    go_enter Try.func62, Try.ntmps62
    go_wp2
    go_loopw [5] (fun i wr => ∃ k : Nat, k ≤ a.length ∧ i = .int .i64 ((k : Int) - 1) ∧ Hid (a.drop k = b.drop k) ∧ ∃ q, wr = w.drewN q) (fun i _ => (intOf i + 1).toNat)
    case atStart => exact ⟨a.length, Nat.le_refl _, rfl, by show _ = _; rw [List.drop_length, HL.out, List.drop_length], 0, rfl⟩
    case round =>
      obtain ⟨k, hk, rfl, hk2, q, rfl⟩ := hrel
      by_cases h0 : 0 < k
      · obtain ⟨b1, o1, rfl, _, hx⟩ := ha.at_ (by omega)
        obtain ⟨b2, o2, rfl, _, hy⟩ := hb.at_ (by omega)
        obtain ⟨j, rfl⟩ : ∃ j, k = j+1 := ⟨k-1, by omega⟩
        have hxk := hx j (by omega)
        have hyk := hy j (by omega)
        clear ha hb hx hy
        have hj1 : (0 : Int) ≤ ((j + 1 : Nat) : Int) - 1 := by omega
        have HO := Lib.hid (ord_top ba bb (by omega) HL.out hk2.out)
        rcases Nat.lt_trichotomy (wd a j) (wd b j) with h1 | h1 | h1
        · have t2 : decide (wd b j < wd a j) = false := by simp; omega
          have HR := Lib.hid (HO.out.1 h1)
          go_wp2
          go_quiet (fail)
          go_wp2
          go_quiet (fail)
          go_wp2
          go_ret
          exact ⟨by rw [HR.out]; rfl, drw3 _ _ _⟩
        · have t1 : decide (wd a j < wd b j) = false := by simp; omega
          have t2 : decide (wd b j < wd a j) = false := by simp; omega
          have HR := Lib.hid (ord_step (by omega) HL.out hk2.out h1)
          clear h1
          go_wp2
          go_quiet (fail)
          go_wp2
          go_quiet (fail)
          go_wp2
          go_roundw
          case rel => exact ⟨j, by omega, by go_num, HR, _, rfl⟩
          case measure => simp [intOf]
        · have HR := Lib.hid (HO.out.2 h1)
          go_wp2
          go_quiet (fail)
          go_wp2
          go_ret
          exact ⟨by rw [HR.out]; rfl, drw _ _⟩
      · obtain rfl : k = 0 := by omega
        go_wp2
        go_ret
        refine ⟨?_, q, rfl⟩
        have h2 := hk2.out
        rw [List.drop_zero, List.drop_zero] at h2
        exact ret_int (by rw [h2, cmpN_self])
  · by_cases hlt : a.length < b.length
    · have HR := Lib.hid (cmpN_lt (len_lt ba nb hlt))
      go_enter Try.func62, Try.ntmps62
      go_wp2
      go_ret
      exact ⟨by rw [HR.out]; rfl, 0, rfl⟩
    · have HR := Lib.hid (cmpN_gt (len_lt bb na (by omega)))
      go_enter Try.func62, Try.ntmps62
      go_wp2
      go_ret
      exact ⟨by rw [HR.out]; rfl, 0, rfl⟩


theorem len_of_le {a b : List Nat} (ha : B32 a) (nb : Nrm b) (h : val b ≤ val a) : b.length ≤ a.length := by
  rcases Nat.lt_or_ge a.length b.length with h1 | h1
  · have := len_lt ha nb h1; omega
  · exact h1
def subA (a b : List Nat) : Nat × Int := if chk2 a b then (if val a < val b then (0, 1) else (val a - val b, 0)) else (0, 2)

def cmpA (a b : List Nat) : Int := if chk2 a b then cmpN (val a) (val b) else 0
def lo32 (n : Nat) : Nat := n % 4294967296
def hi32 (n : Nat) : Nat := n / 4294967296
theorem val_of (n : Nat) : val [lo32 n, hi32 n] = n := by simp only [val, lo32, hi32]; omega
theorem of_any (n : Int) (w : World) (h0 : 0 ≤ n) (h1 : n ≤ 18446744073709551615) : Calls Try.prog 52 #[.int .u64 n] w (RetW w n.toNat) := by
  obtain ⟨k, rfl⟩ := Int.eq_ofNat_of_zero_le h0
  rw [Int.toNat_natCast]
  have e1 : ((k : Int)) % 4294967296 = (lo32 k : Int) := by unfold lo32; omega
  have e2 : ((k : Int)) / 4294967296 = (hi32 k : Int) := by unfold hi32; omega
  have hl : lo32 k < 4294967296 := by unfold lo32; omega
  have hh : hi32 k < 4294967296 := by unfold hi32; omega
  have hO := OW.lit w [lo32 k, hi32 k] (by simp) (B32_cons hl (B32_cons hh B32_nil))
  have hb : Below w.heap.size w (w.alloc (.cells ([lo32 k, hi32 k].map fw).toArray 53)) := (Below.refl _ _).alloc (Nat.le_refl _) _
  have hn := norm_any (some ⟨w.heap.size, 0, none⟩) 2 2 [lo32 k, hi32 k] _ rfl hO.rw
  rw [val_of] at hn
  have hN := hO.norm
  rw [val_of] at hN
  go_enter Try.func52, Try.ntmps52
  go_wp2_with fail
  refine hn.mono ?_; rintro e w' ⟨rfl, rfl⟩
  go_wp2_with fail
  go_ret
  exact ⟨_, _, rfl, hN, hb⟩
theorem rof_any (n : Int) (w : World) (h0 : 0 ≤ n) (h1 : n ≤ 18446744073709551615) : Calls Try.prog 33 #[.int .u64 n] w (RetW w n.toNat) := by
  obtain ⟨k, rfl⟩ := Int.eq_ofNat_of_zero_le h0
  rw [Int.toNat_natCast]
  have e1 : ((k : Int)) % 4294967296 = (lo32 k : Int) := by unfold lo32; omega
  have e2 : ((k : Int)) / 4294967296 = (hi32 k : Int) := by unfold hi32; omega
  have hl : lo32 k < 4294967296 := by unfold lo32; omega
  have hh : hi32 k < 4294967296 := by unfold hi32; omega
  have hO := OW.lit w [lo32 k, hi32 k] (by simp) (B32_cons hl (B32_cons hh B32_nil))
  have hb : Below w.heap.size w (w.alloc (.cells ([lo32 k, hi32 k].map fw).toArray 53)) := (Below.refl _ _).alloc (Nat.le_refl _) _
  have hn := rnorm_any (some ⟨w.heap.size, 0, none⟩) 2 2 [lo32 k, hi32 k] _ rfl hO.rw
  rw [val_of] at hn
  go_enter Try.func33, Try.ntmps33
  go_wp2_with fail
  refine hn.mono ?_; rintro e w' ⟨A', c', rfl, hO', hb'⟩
  go_wp2_with fail
  go_ret
  exact ⟨_, _, rfl, hO'.base_le hb.size, hb.trans (hb'.mono hb.size)⟩
end Go.Proofs.Ytabcnpcfknlmlaa
