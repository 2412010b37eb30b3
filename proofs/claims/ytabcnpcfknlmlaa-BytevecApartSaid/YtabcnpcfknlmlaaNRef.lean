/- Walks: double and Over of the reference, bit by bit. -/
import Derived.Test.YtabcnpcfknlmlaaNatJ
import Derived.Test.YtabcnpcfknlmlaaNatI
import Derived.Test.YtabcnpcfknlmlaaNatX
import Derived.Test.YtabcnpcfknlmlaaPlainH
namespace Go.Proofs.Ytabcnpcfknlmlaa
open Go.RowKit

theorem dbc_int (x : Nat) : (x : Int) / 2147483648 = (dbc x : Int) := by unfold dbc; simp
theorem dbw_int {x c : Nat} (_hx : x < 4294967296) (hc : c ≤ 1) : bits .or .u32 ((x : Int) * 2 % 4294967296) (c : Int) = (dbw x c : Int) := by
  have h : (x : Int) * 2 % 4294967296 = ((x * 2 % 4294967296 : Nat) : Int) := by omega
  rw [h, u32_or_nat _ _ (by omega) (by omega), dbw_or hc]
set_option maxHeartbeats 1000000 in
theorem rdouble_any (A : Option Addr) (c n : Nat) (a : List Nat) (w : World) (bit : Nat) (hbit : bit ≤ 1) (hn : n = a.length) (ha : RW w w.heap.size A c a) (hla : a.length ≤ 8796093022208) :
    Calls Try.prog 79 #[.slice A n c, .int .u32 (bit : Int)] w (RetW w (2 * val a + bit)) := by
  subst hn
  have ba := ha.b32
  go_enter Try.func79, Try.ntmps79
  go_wp2
  go_loopw [1, 5, 6] (fun cr sv i wr => ∃ (k q : Nat) (A' : Option Addr) (c' : Nat) (o : List Nat), k ≤ a.length ∧ i = .int .i64 (k : Int) ∧ q ≤ 1 ∧ cr = .int .u32 (q : Int) ∧ sv = .slice A' o.length c' ∧ OW wr w.heap.size A' c' o ∧ Hid (o.length = k) ∧
      Hid (val o + q * Wp k = 2 * val (a.take k) + bit) ∧ Below w.heap.size w wr) (fun _ _ i _ => a.length - (intOf i).toNat)
  case atStart => exact ⟨0, bit, _, 0, [], Nat.zero_le _, rfl, hbit, rfl, rfl, OW.empty w, rfl, by show _ = _; simp [val, Wp_zero], (Below.refl w.heap.size w).alloc (Nat.le_refl _) _⟩
  case round =>
    obtain ⟨k, q, A', c', o, hk, rfl, hq, rfl, rfl, hO, hol, hinv, hbel⟩ := hrel
    have hwx := wd_lt ba k
    have ha1 := (ha.below hbel).more hbel.size
    have hol2 : o.length ≤ 17592186044416 := by have := hol.out; omega
    by_cases h0 : k < a.length
    · obtain ⟨b1, o1, rfl, hlt1, hx⟩ := ha1.at_ (by omega)
      have hxk := hx k h0
      have e1 := dbw_int hwx hq
      have e2 := dbc_int (wd a k)
      have hrc := dbc_le hwx
      have hst := Lib.hid (dbl_step h0 hol.out hq hinv.out)
      have hone := RW.one wr 53 (dbw_lt (wd a k) q)
      have hb2 : Below w.heap.size w (wr.alloc (.cells #[.int .u32 (dbw (wd a k) q : Int)] 53)) := hbel.alloc hbel.size _
      have hK : Hid ((o ++ [dbw (wd a k) q]).length = k + 1) := by show _ = _; rw [List.length_append, hol.out]; rfl
      clear hx ha1
      go_wp2_with (at_builtin; refine wp_appW _ rfl _ _ rfl w.heap.size _ _ _ o rfl rfl (hO.alloc _) _ _ _ [dbw (wd a k) q] rfl rfl _ hone (by simp; omega) hb2.size ?_; intro A2 c2 w2 g1 g2 g3; have hb3 := hb2.trans g3; obtain ⟨b2, o2, he, _, hx2⟩ := ((ha.below hb3).more hb3.size).at_ (by omega); cases he; have hxk3 := hx2 k h0; clear hx2)
      go_roundw
      case rel => exact ⟨k + 1, dbc (wd a k), A2, c2, _, by omega, by go_num, hrc, rfl, by rw [List.length_append]; rfl, g1, hK, hst, hb3⟩
      case measure => simp [intOf]; omega
    · obtain rfl : k = a.length := by omega
      have hone := RW.one wr 53 (show q < 4294967296 by omega)
      have hb2 : Below w.heap.size w (wr.alloc (.cells #[.int .u32 (q : Int)] 53)) := hbel.alloc hbel.size _
      have hfin : Hid (val (o ++ [q]) = 2 * val a + bit) := by
        have h := hinv.out
        rw [List.take_length] at h
        show _ = _
        rw [val_append, val_one, hol.out, Nat.mul_comm]; exact h
      clear hk
      go_wp2_with (first
        | (at_builtin; refine wp_appW _ rfl _ _ rfl w.heap.size _ _ _ o rfl rfl (hO.alloc _) _ _ _ [q] rfl rfl _ hone (by simp; omega) hb2.size ?_; intro A2 c2 w2 g1 g2 g3)
        | (go_at_call 59; refine (rnorm_any _ _ _ (o ++ [q]) _ (by simp) g1.rw).mono ?_; rintro e w3 ⟨A3, c3, rfl, g4, g5⟩))
      go_ret
      rw [hfin.out] at g4 ⊢
      have hb3 := hb2.trans g3
      exact ⟨A3, c3, rfl, g4.base_le hb3.size, hb3.trans (g5.mono hb3.size)⟩
end Go.Proofs.Ytabcnpcfknlmlaa
