/- Walks: the reference's Up; Down of both. -/
import Derived.Test.YtabcnpcfknlmlaaNatL
import Derived.WalkSpells
namespace Go.Proofs.Ytabcnpcfknlmlaa
open Go.RowKit

theorem rup_end {a o : List Nat} {k c : Nat} (hc : c = 0) (h : val o + c * Wp (k / 32 + (a.length + 1)) = val (a.take (a.length + 1)) * 2 ^ k) : val o = val a * 2 ^ k := by
  subst hc; rw [val_take_all (by omega)] at h; omega

set_option maxHeartbeats 2000000 in
theorem rup_any (A : Option Addr) (c n : Nat) (a : List Nat) (w : World) (k : Nat) (hk : k ≤ 1000000) (hn : n = a.length) (ha : RW w w.heap.size A c a) (hla : a.length ≤ 17592186044416) :
    Calls Try.prog 36 #[.slice A n c, .int .i64 (k : Int)] w (RetW w (val a * 2 ^ k)) := by
  subst hn
  have ba := ha.b32
  have hs32 : k % 32 < 32 := Nat.mod_lt _ (by omega)
  go_enter Try.func36, Try.ntmps36
  go_wp2_with (at_make; refine wp_makeW _ rfl _ _ rfl .i64 .i64 _ _ (k / 32) rfl rfl (by omega) (by omega) (by omega) ?_; intro w1 hO1 hb1 hs1)
  go_loopw [5, 6, 7] (fun sv cv iv wr => ∃ (i q : Nat) (A' : Option Addr) (c' : Nat) (o : List Nat), i ≤ a.length + 1 ∧ iv = .int .i64 (i : Int) ∧ q < 4294967296 ∧ cv = .int .u64 (q : Int) ∧ sv = .slice A' o.length c' ∧ OW wr w.heap.size A' c' o ∧ Hid (o.length = k / 32 + i) ∧
      Hid (val o + q * Wp (k / 32 + i) = val (a.take i) * 2 ^ k) ∧ Hid (q < 2 ^ (k % 32)) ∧ Hid (i = a.length + 1 → q = 0) ∧ Below w.heap.size w wr) (fun _ _ iv _ => (a.length + 1 - intOf iv).toNat)
  case atStart => exact ⟨0, 0, _, _, _, Nat.zero_le _, rfl, by omega, rfl, by rw [List.length_replicate], hO1, by show _ = _; simp, by show _ = _; simp [val, val_replicate], Nat.pow_pos (by omega), fun _ => rfl, hb1⟩
  case round =>
    obtain ⟨i, q, A', c', o, hi, rfl, hq, rfl, rfl, hO, hol, hinv, hlow, hlast, hbel⟩ := hrel
    have hwx := wd_lt ba i
    have ha1 := (ha.below hbel).more hbel.size
    by_cases h0 : i ≤ a.length
    · obtain ⟨hm0, hm1⟩ := shI hwx hs32
      have e3 : bits .or .u64 (q : Int) ((wd a i : Int) * 2 ^ (k % 32)) = (upv q (wd a i) (k % 32) : Int) := by
        have h1 := hm1
        rw [mulpow_cast] at h1 ⊢
        rw [u64_or_nat _ _ (by omega) (by omega), upv_or hlow.out]
      have e1 := upv_lo (x := wd a i) hs32 hlow.out
      have e2 := upv_hi (x := wd a i) hs32 hlow.out
      have hul := uplo_lt (x := wd a i) hs32 hlow.out
      have hst := Lib.hid (rup_step hol.out hinv.out)
      have hone := RW.one wr 53 hul
      have hb2 : Below w.heap.size w (wr.alloc (.cells #[.int .u32 (uplo q (wd a i) (k % 32) : Int)] 53)) := hbel.alloc hbel.size _
      have hol2 : o.length ≤ 17592186044416 + 1000000 := by have := hol.out; omega
      have hK : Hid ((o ++ [uplo q (wd a i) (k % 32)]).length = k / 32 + (i + 1)) := by show _ = _; rw [List.length_append, hol.out]; simp only [List.length_cons, List.length_nil]; omega
      have hlow2 : Hid (shhi (wd a i) (k % 32) < 2 ^ (k % 32)) := shhi_lt hwx
      have hsh32 : shhi (wd a i) (k % 32) < 4294967296 := Nat.lt_of_lt_of_le hlow2.out (Nat.le_trans (pow_le32 hs32) (by omega))
      have hlast2 : Hid (i + 1 = a.length + 1 → shhi (wd a i) (k % 32) = 0) := fun h1 => by rw [wd_out (by omega)]; exact shhi_zero _
      have hst2 : Hid (val (o ++ [uplo q (wd a i) (k % 32)]) + shhi (wd a i) (k % 32) * Wp (k / 32 + (i + 1)) = val (a.take (i + 1)) * 2 ^ k) := hst
      clear hst
      go_wp2_with fail
      refine (word_k _ _ _ a _ _ i rfl rfl ha1).mono ?_; rintro e w' ⟨rfl, rfl⟩
      go_wp2_with (at_builtin; refine wp_appW _ rfl _ _ rfl w.heap.size _ _ _ o rfl rfl (hO.alloc _) _ _ _ [uplo q (wd a i) (k % 32)] rfl rfl _ hone (by simp; omega) hb2.size ?_; intro A2 c2 w2 g1 g2 g3)
      go_roundw
      case rel => exact ⟨i + 1, _, A2, c2, _, by omega, by go_num, hsh32, rfl, by rw [List.length_append]; rfl, g1, hK, hst2, hlow2, hlast2, hb2.trans g3⟩
      case measure => simp [intOf]; omega
    · obtain rfl : i = a.length + 1 := by omega
      have hfin := Lib.hid (rup_end (hlast.out rfl) hinv.out)
      have hO2 := hO.rw
      have hol2 : o.length ≤ 17592186044416 + 1000001 := by have := hol.out; omega
      go_wp2_with (go_at_call 59; refine (rnorm_any _ _ _ o _ rfl hO2).mono ?_; rintro e w3 ⟨A3, c3, rfl, g4, g5⟩)
      go_ret
      rw [hfin.out] at g4 ⊢
      exact ⟨A3, c3, rfl, g4.base_le hbel.size, hbel.trans (g5.mono hbel.size)⟩

/-- slices.Clone -/
theorem clone_any (A : Option Addr) (c n : Nat) (l : List Nat) (w : World) (hn : n = l.length) (h : RW w w.heap.size A c l) :
    Calls Try.prog 83 #[.slice A n c] w fun e w' => ∃ A' c', e = .returned (.slice A' l.length c') ∧ OW w' w.heap.size A' c' l ∧ Below w.heap.size w w' := by
  subst hn
  have hbig := h.big
  have q22 : ∀ (w : World) (a : Option Addr) (n c n' c' : Nat), (binOp .eql 23 (.slice a n c) (.slice none n' c')).run Try.prog w = .ok (.bool a.isNone) w := fun w a n c n' c' => Lib.run_eql_slice_nil w _ _ a n c n' c' Try.underlying23
  rcases A with _ | ad
  · have hl0 : l = [] := by
      rcases Nat.eq_zero_or_pos l.length with h0 | h0
      · exact List.eq_nil_of_length_eq_zero h0
      · obtain ⟨_, _, e, _⟩ := h.at_ h0; cases e
    subst hl0
    go_enter Try.func83, Try.ntmps83
    go_wp2
    go_ret
    exact ⟨none, 0, rfl, OW.nil _ _, Below.refl _ _⟩
  · have hb1 : Below w.heap.size w (w.alloc (.cells #[] 53)) := (Below.refl _ _).alloc (Nat.le_refl _) _
    have hr := h.below hb1
    clear h
    go_enter Try.func83, Try.ntmps83
    go_wp2_with (at_builtin; refine wp_appW _ rfl _ _ rfl w.heap.size _ _ _ [] rfl rfl (OW.empty w) _ _ _ l rfl rfl _ hr (by simp; omega) (by simp) ?_; intro A' c' w' h1 h2 h3)
    go_ret
    exact ⟨A', c', ret_slice (by simp), h1, hb1.trans h3⟩
end Go.Proofs.Ytabcnpcfknlmlaa
