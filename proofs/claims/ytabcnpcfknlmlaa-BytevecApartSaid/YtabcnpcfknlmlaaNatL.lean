/- Walks: Up of both. -/
import Derived.Test.YtabcnpcfknlmlaaNatJ
import Derived.Test.YtabcnpcfknlmlaaPlainB
namespace Go.Proofs.Ytabcnpcfknlmlaa
open Go.RowKit


set_option maxHeartbeats 2000000 in
theorem up_any (A : Option Addr) (c n : Nat) (a : List Nat) (w : World) (k : Nat) (hk : k ≤ 1000000) (hn : n = a.length) (ha : RW w w.heap.size A c a) (hla : a.length ≤ 17592186044416) :
    Calls Try.prog 29 #[.slice A n c, .int .i64 (k : Int)] w (RetW w (val a * 2 ^ k)) := by
  subst hn
  have ba := ha.b32
  by_cases hl0 : a.length = 0
  · have hl0' : ((a.length : Int) == 0) = true := by simp [hl0]
    have ha0 : a = [] := List.eq_nil_of_length_eq_zero hl0
    have hv : Hid (val a * 2 ^ k = 0) := by show _ = _; subst ha0; simp [val]
    clear hl0 ha0
    go_enter Try.func29, Try.ntmps29
    go_wp2
    go_ret
    rw [hv.out]
    exact ⟨none, 0, by rw [digs_zero]; rfl, by rw [digs_zero]; exact OW.nil _ _, Below.refl _ _⟩
  · have hl0' : ((a.length : Int) == 0) = false := beq_eq_false_iff_ne.2 (by omega)
    go_enter Try.func29, Try.ntmps29
    go_wp2_with (at_make; refine wp_makeW _ rfl _ _ rfl .i64 .i64 _ _ (a.length + k / 32 + 1) rfl rfl (by omega) (by omega) (by omega) ?_; intro w1 hO1 hb1 hs1)
    go_loopw [21] (fun iv wr => ∃ (i : Nat) (o : List Nat), i ≤ a.length ∧ iv = .int .i64 (i : Int) ∧ OW wr w.heap.size (some ⟨w.heap.size, 0, none⟩) (a.length + k / 32 + 1) o ∧ Hid (o.length = a.length + k / 32 + 1) ∧
        Hid (val o = val (a.take i) * 2 ^ k) ∧ Hid (wd o (i + k / 32) < 2 ^ (k % 32)) ∧ Hid (∀ t, i + k / 32 + 1 ≤ t → wd o t = 0) ∧ Below w.heap.size w wr) (fun iv _ => (a.length - intOf iv).toNat)
    case atStart => exact ⟨0, _, Nat.zero_le _, rfl, hO1, by show _ = _; simp, by show _ = _; simp [val, val_replicate], by show _ < _; rw [wd_replicate]; exact Nat.pow_pos (by omega), fun t _ => wd_replicate _ t, hb1⟩
    case round =>
      obtain ⟨i, o, hi, rfl, hO, hol, hinv, hlow, hz, hbel⟩ := hrel
      have ha1 := ha.below hbel
      have hwx := wd_lt ba i
      by_cases h0 : i < a.length
      · obtain ⟨b1, o1, rfl, hlt1, hx⟩ := ha1.at_ (by omega)
        have hxk := hx i h0
        have hok : i + k / 32 < o.length := by have := hol.out; omega
        have hoc := hO.cell hok
        have hfz := hO.frozen (i + k / 32)
        have hok2 : i + k / 32 + 1 < o.length := by have := hol.out; omega
        have hoc2 := hO.cell hok2
        have hfz2 := hO.frozen (i + k / 32 + 1)
        have hs32 : k % 32 < 32 := Nat.mod_lt _ (by omega)
        obtain ⟨hm0, hm1⟩ := shI hwx hs32
        have e1 := shlo_int (wd a i) (k % 32)
        have e2 := shhi_int (wd a i) (k % 32)
        obtain ⟨ho1, ho2⟩ := or_shlo (x := wd a i) hs32 hlow.out
        have e3 : bits .or .u32 (wd o (i + k / 32) : Int) (shlo (wd a i) (k % 32) : Int) = ((wd o (i + k / 32) + shlo (wd a i) (k % 32) : Nat) : Int) := by
          rw [u32_or_nat _ _ (by omega) (shlo_lt _ _), ho1]
        have hset := (hO.set (i + k / 32) ho2).set (i + k / 32 + 1) (Nat.lt_of_lt_of_le (shhi_lt (s := k % 32) hwx) (Nat.le_trans (pow_le32 hs32) (by omega)))
        clear hx ha ha1 ho1
        have hst := Lib.hid (up_step (a := a) hok2 (hz.out _ (Nat.le_refl _)) hinv.out)
        have hlow2 : Hid (wd ((o.set (i + k / 32) (wd o (i + k / 32) + shlo (wd a i) (k % 32))).set (i + k / 32 + 1) (shhi (wd a i) (k % 32))) (i + 1 + k / 32) < 2 ^ (k % 32)) := by
          show _ < _
          rw [show i + 1 + k / 32 = i + k / 32 + 1 by omega, wd_set_eq (by rw [List.length_set]; exact hok2)]
          exact shhi_lt hwx
        have hz2 : Hid (∀ t, i + 1 + k / 32 + 1 ≤ t → wd ((o.set (i + k / 32) (wd o (i + k / 32) + shlo (wd a i) (k % 32))).set (i + k / 32 + 1) (shhi (wd a i) (k % 32))) t = 0) := fun t ht => by
          rw [wd_set_ne (by omega), wd_set_ne (by omega)]; exact hz.out t (by omega)
        have hbel2 := (hbel.setCell (p := ⟨w.heap.size, i + k / 32, none⟩) (Nat.le_refl _) (.int .u32 ((wd o (i + k / 32) + shlo (wd a i) (k % 32) : Nat) : Int))).setCell (p := ⟨w.heap.size, i + k / 32 + 1, none⟩) (Nat.le_refl _) (.int .u32 (shhi (wd a i) (k % 32) : Nat))
        simp only [Int.natCast_add] at hset hbel2
        go_wp2
        go_roundw
        case rel => exact ⟨i + 1, _, by omega, by go_num, hset, by show _ = _; rw [List.length_set, List.length_set]; exact hol.out, hst, hlow2, hz2, hbel2⟩
        case measure => simp [intOf]; omega
      · obtain rfl : i = a.length := by omega
        have hfin : Hid (val o = val a * 2 ^ k) := by have := hinv.out; rw [List.take_length] at this; exact this
        have hO2 := hO.rw
        go_wp2_with (go_at_call 57; refine (norm_any _ _ _ o _ hol.out.symm hO2).mono ?_; rintro e w' ⟨rfl, rfl⟩)
        go_ret
        have hn := hO.norm
        rw [hfin.out] at hn ⊢
        exact ⟨_, _, rfl, hn, hbel⟩
end Go.Proofs.Ytabcnpcfknlmlaa
