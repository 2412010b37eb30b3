/- Merged texts: NatL, NatM, NatN, NatO, NatQ, NatR, NatS, NatT, NatU, NatV. -/
import Derived.Test.YtkjfpaommbjgbaaGB
import Derived.Test.YtkjfpaommbjgbaaGA
import Derived.WalkSpells
import Derived.Deep.RegionHeld3
namespace Go.Proofs.Ytkjfpaommbjgbaa
open Go.RowKit


set_option maxHeartbeats 2000000 in
theorem up_any (A : Option Addr) (c n : Nat) (a : List Nat) (w : World) (k : Nat) (hk : k ≤ 1000000) (hn : n = a.length) (ha : RW w w.heap.size A c a) (hla : a.length ≤ 17592186044416) :
    Calls Try.prog 83 #[.slice A n c, .int .i64 (k : Int)] w (RetW w (val a * 2 ^ k)) := by
  subst hn
  have ba := ha.b32
  by_cases hl0 : a.length = 0
  · have hl0' : ((a.length : Int) == 0) = true := by simp [hl0]
    have ha0 : a = [] := List.eq_nil_of_length_eq_zero hl0
    have hv : Hid (val a * 2 ^ k = 0) := by show _ = _; subst ha0; simp [val]
    clear hl0 ha0
    go_enter Try.func83, Try.ntmps83
    go_wp2
    go_ret
    rw [hv.out]
    exact ⟨none, 0, by rw [digs_zero]; rfl, by rw [digs_zero]; exact OW.nil _ _, Below.refl _ _⟩
  · have hl0' : ((a.length : Int) == 0) = false := beq_eq_false_iff_ne.2 (by omega)
    go_enter Try.func83, Try.ntmps83
    go_wp2_with (at_make; refine wp_makeW _ rfl _ _ rfl .i64 .i64 _ _ (a.length + k / 32 + 1) rfl rfl (by omega) (by omega) (by omega) ?_; intro w1 hO1 hb1 hs1)
    go_loopw [21] (fun iv wr => ∃ (i : Nat) (o : List Nat), i ≤ a.length ∧ iv = .int .i64 (i : Int) ∧ OW wr w.heap.size (some ⟨w.heap.size, 0, none⟩) (a.length + k / 32 + 1) o ∧ Hid (o.length = a.length + k / 32 + 1) ∧
        Hid (val o = val (a.take i) * 2 ^ k) ∧ Hid (wd o (i + k / 32) < 2 ^ (k % 32)) ∧ Hid (∀ t, i + k / 32 + 1 ≤ t → wd o t = 0) ∧ Below w.heap.size w wr) (fun iv _ => (a.length - intOf iv).toNat)
    case atStart => exact ⟨0, _, Nat.zero_le _, rfl, hO1, by show _ = _; simp, by show _ = _; simp [val, val_replicate], by show _ < _; rw [wd_replicate]; exact Nat.pow_pos (by omega), fun t _ => wd_replicate _ t, hb1⟩
    case round =>
      obtain ⟨i, o, hi, rfl, hO, hol, hinv, hlow, hz, hbel⟩ := hrel
      have ha1 := ha.below hbel
      have hwx := wd_lt ba i
      by_cases h0 : i < a.length
      · obtain ⟨b1, o1, rfl, hlt1, hx⟩ := ha1.at_ (by omega)
        have hxk := hx i h0
        have hok : i + k / 32 < o.length := by have := hol.out; omega
        have hoc := hO.cell hok
        have hfz := hO.frozen (i + k / 32)
        have hok2 : i + k / 32 + 1 < o.length := by have := hol.out; omega
        have hoc2 := hO.cell hok2
        have hfz2 := hO.frozen (i + k / 32 + 1)
        have hs32 : k % 32 < 32 := Nat.mod_lt _ (by omega)
        obtain ⟨hm0, hm1⟩ := shI hwx hs32
        have e1 := shlo_int (wd a i) (k % 32)
        have e2 := shhi_int (wd a i) (k % 32)
        obtain ⟨ho1, ho2⟩ := or_shlo (x := wd a i) hs32 hlow.out
        have e3 : bits .or .u32 (wd o (i + k / 32) : Int) (shlo (wd a i) (k % 32) : Int) = ((wd o (i + k / 32) + shlo (wd a i) (k % 32) : Nat) : Int) := by
          rw [u32_or_nat _ _ (by omega) (shlo_lt _ _), ho1]
        have hset := (hO.set (i + k / 32) ho2).set (i + k / 32 + 1) (Nat.lt_of_lt_of_le (shhi_lt (s := k % 32) hwx) (Nat.le_trans (pow_le32 hs32) (by omega)))
        clear hx ha ha1 ho1
        have hst := Lib.hid (up_step (a := a) hok2 (hz.out _ (Nat.le_refl _)) hinv.out)
        have hlow2 : Hid (wd ((o.set (i + k / 32) (wd o (i + k / 32) + shlo (wd a i) (k % 32))).set (i + k / 32 + 1) (shhi (wd a i) (k % 32))) (i + 1 + k / 32) < 2 ^ (k % 32)) := by
          show _ < _
          rw [show i + 1 + k / 32 = i + k / 32 + 1 by omega, wd_set_eq (by rw [List.length_set]; exact hok2)]
          exact shhi_lt hwx
        have hz2 : Hid (∀ t, i + 1 + k / 32 + 1 ≤ t → wd ((o.set (i + k / 32) (wd o (i + k / 32) + shlo (wd a i) (k % 32))).set (i + k / 32 + 1) (shhi (wd a i) (k % 32))) t = 0) := fun t ht => by
          rw [wd_set_ne (by omega), wd_set_ne (by omega)]; exact hz.out t (by omega)
        have hbel2 := (hbel.setCell (p := ⟨w.heap.size, i + k / 32, none⟩) (Nat.le_refl _) (.int .u32 ((wd o (i + k / 32) + shlo (wd a i) (k % 32) : Nat) : Int))).setCell (p := ⟨w.heap.size, i + k / 32 + 1, none⟩) (Nat.le_refl _) (.int .u32 (shhi (wd a i) (k % 32) : Nat))
        simp only [Int.natCast_add] at hset hbel2
        go_wp2
        go_roundw
        case rel => exact ⟨i + 1, _, by omega, by go_num, hset, by show _ = _; rw [List.length_set, List.length_set]; exact hol.out, hst, hlow2, hz2, hbel2⟩
        case measure => simp [intOf]; omega
      · obtain rfl : i = a.length := by omega
        have hfin : Hid (val o = val a * 2 ^ k) := by have := hinv.out; rw [List.take_length] at this; exact this
        have hO2 := hO.rw
        go_wp2_with (go_at_call 62; refine (norm_any _ _ _ o _ hol.out.symm hO2).mono ?_; rintro e w' ⟨rfl, rfl⟩)
        go_ret
        have hn := hO.norm
        rw [hfin.out] at hn ⊢
        exact ⟨_, _, rfl, hn, hbel⟩
end Go.Proofs.Ytkjfpaommbjgbaa
namespace Go.Proofs.Ytkjfpaommbjgbaa
open Go.RowKit

theorem rup_end {a o : List Nat} {k c : Nat} (hc : c = 0) (h : val o + c * Wp (k / 32 + (a.length + 1)) = val (a.take (a.length + 1)) * 2 ^ k) : val o = val a * 2 ^ k := by
  subst hc; rw [val_take_all (by omega)] at h; omega

set_option maxHeartbeats 2000000 in
theorem rup_any (A : Option Addr) (c n : Nat) (a : List Nat) (w : World) (k : Nat) (hk : k ≤ 1000000) (hn : n = a.length) (ha : RW w w.heap.size A c a) (hla : a.length ≤ 17592186044416) :
    Calls Try.prog 90 #[.slice A n c, .int .i64 (k : Int)] w (RetW w (val a * 2 ^ k)) := by
  subst hn
  have ba := ha.b32
  have hs32 : k % 32 < 32 := Nat.mod_lt _ (by omega)
  go_enter Try.func90, Try.ntmps90
  go_wp2_with (at_make; refine wp_makeW _ rfl _ _ rfl .i64 .i64 _ _ (k / 32) rfl rfl (by omega) (by omega) (by omega) ?_; intro w1 hO1 hb1 hs1)
  go_loopw [5, 6, 7] (fun sv cv iv wr => ∃ (i q : Nat) (A' : Option Addr) (c' : Nat) (o : List Nat), i ≤ a.length + 1 ∧ iv = .int .i64 (i : Int) ∧ q < 4294967296 ∧ cv = .int .u64 (q : Int) ∧ sv = .slice A' o.length c' ∧ OW wr w.heap.size A' c' o ∧ Hid (o.length = k / 32 + i) ∧
      Hid (val o + q * Wp (k / 32 + i) = val (a.take i) * 2 ^ k) ∧ Hid (q < 2 ^ (k % 32)) ∧ Hid (i = a.length + 1 → q = 0) ∧ Below w.heap.size w wr) (fun _ _ iv _ => (a.length + 1 - intOf iv).toNat)
  case atStart => exact ⟨0, 0, _, _, _, Nat.zero_le _, rfl, by omega, rfl, by rw [List.length_replicate], hO1, by show _ = _; simp, by show _ = _; simp [val, val_replicate], Nat.pow_pos (by omega), fun _ => rfl, hb1⟩
  case round =>
    obtain ⟨i, q, A', c', o, hi, rfl, hq, rfl, rfl, hO, hol, hinv, hlow, hlast, hbel⟩ := hrel
    have hwx := wd_lt ba i
    have ha1 := (ha.below hbel).more hbel.size
    by_cases h0 : i ≤ a.length
    · obtain ⟨hm0, hm1⟩ := shI hwx hs32
      have e3 : bits .or .u64 (q : Int) ((wd a i : Int) * 2 ^ (k % 32)) = (upv q (wd a i) (k % 32) : Int) := by
        have h1 := hm1
        rw [mulpow_cast] at h1 ⊢
        rw [u64_or_nat _ _ (by omega) (by omega), upv_or hlow.out]
      have e1 := upv_lo (x := wd a i) hs32 hlow.out
      have e2 := upv_hi (x := wd a i) hs32 hlow.out
      have hul := uplo_lt (x := wd a i) hs32 hlow.out
      have hst := Lib.hid (rup_step hol.out hinv.out)
      have hone := RW.one wr 52 hul
      have hb2 : Below w.heap.size w (wr.alloc (.cells #[.int .u32 (uplo q (wd a i) (k % 32) : Int)] 52)) := hbel.alloc hbel.size _
      have hol2 : o.length ≤ 17592186044416 + 1000000 := by have := hol.out; omega
      have hK : Hid ((o ++ [uplo q (wd a i) (k % 32)]).length = k / 32 + (i + 1)) := by show _ = _; rw [List.length_append, hol.out]; simp only [List.length_cons, List.length_nil]; omega
      have hlow2 : Hid (shhi (wd a i) (k % 32) < 2 ^ (k % 32)) := shhi_lt hwx
      have hsh32 : shhi (wd a i) (k % 32) < 4294967296 := Nat.lt_of_lt_of_le hlow2.out (Nat.le_trans (pow_le32 hs32) (by omega))
      have hlast2 : Hid (i + 1 = a.length + 1 → shhi (wd a i) (k % 32) = 0) := fun h1 => by rw [wd_out (by omega)]; exact shhi_zero _
      have hst2 : Hid (val (o ++ [uplo q (wd a i) (k % 32)]) + shhi (wd a i) (k % 32) * Wp (k / 32 + (i + 1)) = val (a.take (i + 1)) * 2 ^ k) := hst
      clear hst
      go_wp2_with fail
      refine (word_k _ _ _ a _ _ i rfl rfl ha1).mono ?_; rintro e w' ⟨rfl, rfl⟩
      go_wp2_with (at_builtin; refine wp_appW _ rfl _ _ rfl w.heap.size _ _ _ o rfl rfl (hO.alloc _) _ _ _ [uplo q (wd a i) (k % 32)] rfl rfl _ hone (by simp; omega) hb2.size ?_; intro A2 c2 w2 g1 g2 g3)
      go_roundw
      case rel => exact ⟨i + 1, _, A2, c2, _, by omega, by go_num, hsh32, rfl, by rw [List.length_append]; rfl, g1, hK, hst2, hlow2, hlast2, hb2.trans g3⟩
      case measure => simp [intOf]; omega
    · obtain rfl : i = a.length + 1 := by omega
      have hfin := Lib.hid (rup_end (hlast.out rfl) hinv.out)
      have hO2 := hO.rw
      have hol2 : o.length ≤ 17592186044416 + 1000001 := by have := hol.out; omega
      go_wp2_with (go_at_call 70; refine (rnorm_any _ _ _ o _ rfl hO2).mono ?_; rintro e w3 ⟨A3, c3, rfl, g4, g5⟩)
      go_ret
      rw [hfin.out] at g4 ⊢
      exact ⟨A3, c3, rfl, g4.base_le hbel.size, hbel.trans (g5.mono hbel.size)⟩

/-- slices.Clone -/
theorem clone_any (A : Option Addr) (c n : Nat) (l : List Nat) (w : World) (hn : n = l.length) (h : RW w w.heap.size A c l) :
    Calls Try.prog 55 #[.slice A n c] w fun e w' => ∃ A' c', e = .returned (.slice A' l.length c') ∧ OW w' w.heap.size A' c' l ∧ Below w.heap.size w w' := by
  subst hn
  have hbig := h.big
  have q22 : ∀ (w : World) (a : Option Addr) (n c n' c' : Nat), (binOp .eql 22 (.slice a n c) (.slice none n' c')).run Try.prog w = .ok (.bool a.isNone) w := fun w a n c n' c' => Lib.run_eql_slice_nil w _ _ a n c n' c' Try.underlying22
  rcases A with _ | ad
  · have hl0 : l = [] := by
      rcases Nat.eq_zero_or_pos l.length with h0 | h0
      · exact List.eq_nil_of_length_eq_zero h0
      · obtain ⟨_, _, e, _⟩ := h.at_ h0; cases e
    subst hl0
    go_enter Try.func55, Try.ntmps55
    go_wp2
    go_ret
    exact ⟨none, 0, rfl, OW.nil _ _, Below.refl _ _⟩
  · have hb1 : Below w.heap.size w (w.alloc (.cells #[] 52)) := (Below.refl _ _).alloc (Nat.le_refl _) _
    have hr := h.below hb1
    clear h
    go_enter Try.func55, Try.ntmps55
    go_wp2_with (at_builtin; refine wp_appW _ rfl _ _ rfl w.heap.size _ _ _ [] rfl rfl (OW.empty w) _ _ _ l rfl rfl _ hr (by simp; omega) (by simp) ?_; intro A' c' w' h1 h2 h3)
    go_ret
    exact ⟨A', c', ret_slice (by simp), h1, hb1.trans h3⟩
end Go.Proofs.Ytkjfpaommbjgbaa
namespace Go.Proofs.Ytkjfpaommbjgbaa
open Go.RowKit

theorem RW_drop {w : World} {B : Nat} {b off c : Nat} {l : List Nat} (h : RW w B (some ⟨b, off, none⟩) c l) (q : Nat) (hq : q ≤ l.length) : RW w B (some ⟨b, off + q, none⟩) (c - q) (l.drop q) := by
  refine ⟨⟨by rw [List.length_drop]; have := h.lc; omega, by rw [List.length_drop]; have := h.big; omega, fun hn => ?_⟩, B32_drop h.2 q⟩
  rw [List.length_drop] at hn
  obtain ⟨b', off', e, hb, hc⟩ := h.1.at_ (by omega)
  simp only [Option.some.injEq, Addr.mk.injEq, and_true] at e
  obtain ⟨rfl, rfl⟩ := e
  refine ⟨b, off + q, rfl, hb, fun k x hk => ?_⟩
  rw [List.getElem?_drop] at hk
  rw [Nat.add_assoc]
  exact hc _ x hk

def Dn (a o : List Nat) (k i : Nat) : Prop :=
  (∀ j, j < i → wd o j = dnw (wd a (k / 32 + j)) (wd a (k / 32 + j + 1)) (k % 32)) ∧ ∀ j, i ≤ j → wd o j = wd a (k / 32 + j)
theorem Dn_step {a o : List Nat} {k i : Nat} (h : Dn a o k i) (hi : i < o.length) : Dn a (o.set i (dnw (wd a (k / 32 + i)) (wd a (k / 32 + i + 1)) (k % 32))) k (i + 1) := by
  constructor
  · intro j hj
    by_cases e : i = j
    · subst e; rw [wd_set_eq hi]
    · rw [wd_set_ne e]; exact h.1 j (by omega)
  · intro j hj
    rw [wd_set_ne (by omega)]; exact h.2 j (by omega)

set_option maxHeartbeats 2000000 in
theorem down_any (A : Option Addr) (c n : Nat) (a : List Nat) (w : World) (k : Nat) (hk : k ≤ 1000000) (hn : n = a.length) (ha : RW w w.heap.size A c a) :
    Calls Try.prog 85 #[.slice A n c, .int .i64 (k : Int)] w (RetW w (val a / 2 ^ k)) := by
  subst hn
  have ba := ha.b32
  have hbig := ha.big
  have hs32 : k % 32 < 32 := Nat.mod_lt _ (by omega)
  by_cases hq : a.length ≤ k / 32
  · have hv : Hid (val a / 2 ^ k = 0) := by
      have := dn_lt ba k
      rw [show a.length - k / 32 = 0 by omega, Wp_zero] at this
      exact Nat.lt_one_iff.1 this
    go_enter Try.func85, Try.ntmps85
    go_wp2
    go_ret
    rw [hv.out]
    exact ⟨none, 0, by rw [digs_zero]; rfl, by rw [digs_zero]; exact OW.nil _ _, Below.refl _ _⟩
  · obtain ⟨b, off, rfl, hb, _⟩ := ha.at_ (by omega)
    have hlc := ha.lc
    have hck : ¬ c = k / 32 := by omega
    have hcl := clone_any (some ⟨b, off + k / 32, none⟩) (c - k / 32) (a.length - k / 32) (a.drop (k / 32)) w (by rw [List.length_drop]) (RW_drop ha _ (by omega))
    rw [List.length_drop] at hcl
    clear ha
    go_enter Try.func85, Try.ntmps85
    go_wp2_with fail
    refine hcl.mono ?_; rintro e w1 ⟨A1, c1, rfl, hO1, hb1⟩
    go_wp2_with fail
    go_loopw [20] (fun iv wr => ∃ (i : Nat) (o : List Nat), i ≤ a.length - k / 32 ∧ iv = .int .i64 (i : Int) ∧ OW wr w.heap.size A1 c1 o ∧ Hid (o.length = a.length - k / 32) ∧ Hid (Dn a o k i) ∧ Below w.heap.size w wr) (fun iv _ => (a.length - intOf iv).toNat)
    case atStart => exact ⟨0, _, Nat.zero_le _, rfl, hO1, by show _ = _; rw [List.length_drop], ⟨fun j hj => absurd hj (by omega), fun j _ => wd_drop a j _⟩, hb1⟩
    case round =>
      obtain ⟨i, o, hi, rfl, hO, hol, hD, hbel⟩ := hrel
      by_cases h0 : i < a.length - k / 32
      · have hok : i < o.length := by have := hol.out; omega
        rcases hO.form with ⟨_, _, he⟩ | ⟨g, rfl, hg1, hg2, _⟩
        · rw [he] at hok; simp at hok
        have hoc := hO.cell hok
        rw [hD.out.2 i (Nat.le_refl _)] at hoc
        have hfz := hO.frozen i
        have hwx := wd_lt ba (k / 32 + i)
        have hwy := wd_lt ba (k / 32 + i + 1)
        have hst := Lib.hid (Dn_step hD.out hok)
        have hset := hO.set i (dnw_lt (wd a (k / 32 + i)) (wd a (k / 32 + i + 1)) (k % 32))
        have hbel2 := hbel.setCell (p := ⟨g, i, none⟩) hg1 (.int .u32 (dnw (wd a (k / 32 + i)) (wd a (k / 32 + i + 1)) (k % 32) : Nat))
        by_cases h1 : i + 1 < a.length - k / 32
        · have hok1 : i + 1 < o.length := by have := hol.out; omega
          have hoc1 := hO.cell hok1
          rw [hD.out.2 (i + 1) (by omega), ← Nat.add_assoc] at hoc1
          have e3 : bits .or .u64 (wd a (k / 32 + i) : Int) ((wd a (k / 32 + i + 1) : Int) * 4294967296) = (x2 (wd a (k / 32 + i)) (wd a (k / 32 + i + 1)) : Int) := by
            have h5 : ((wd a (k / 32 + i + 1) : Int) * 4294967296) = ((wd a (k / 32 + i + 1) * 4294967296 : Nat) : Int) := by omega
            rw [h5, u64_or_nat _ _ (by omega) (by omega), or_hi hwx]; rfl
          have hx2 := x2_lt hwx hwy
          have e4 := dnw_int (wd a (k / 32 + i)) (wd a (k / 32 + i + 1)) (k % 32)
          go_wp2
          go_roundw
          case rel => exact ⟨i + 1, _, by omega, by go_num, hset, by show _ = _; rw [List.length_set]; exact hol.out, hst, hbel2⟩
          case measure => simp [intOf]; omega
        · have hy0 := Lib.hid (wd_out (l := a) (k := k / 32 + i + 1) (by omega))
          rw [hy0.out] at hst hset hbel2
          have e4 := dnw_int0 (wd a (k / 32 + i)) (k % 32)
          go_wp2
          go_roundw
          case rel => exact ⟨i + 1, _, by omega, by go_num, hset, by show _ = _; rw [List.length_set]; exact hol.out, hst, hbel2⟩
          case measure => simp [intOf]; omega
      · obtain rfl : i = a.length - k / 32 := by omega
        have hfin := Lib.hid (down_all ba hol.out (fun j hj => hD.out.1 j (by have := hol.out; omega)))
        have hO2 := hO.rw
        go_wp2_with (go_at_call 62; refine (norm_any _ _ _ o _ hol.out.symm hO2).mono ?_; rintro e w' ⟨rfl, rfl⟩)
        go_ret
        have hn := hO.norm
        rw [hfin.out] at hn ⊢
        exact ⟨_, _, rfl, hn, hbel⟩

theorem wd_snoc {o : List Nat} {j : Nat} (h : o.length = j) (x : Nat) : wd (o ++ [x]) j = x := by
  subst h; unfold wd; simp [List.getD_eq_getElem?_getD]
theorem rdn_step {a o : List Nat} {k i : Nat} (ho : o.length = i) (h : ∀ j, j < i → wd o j = dnw (wd a (k / 32 + j)) (wd a (k / 32 + j + 1)) (k % 32)) :
    ∀ j, j < i + 1 → wd (o ++ [dnw (wd a (k / 32 + i)) (wd a (k / 32 + i + 1)) (k % 32)]) j = dnw (wd a (k / 32 + j)) (wd a (k / 32 + j + 1)) (k % 32) := by
  intro j hj
  by_cases e : j < i
  · rw [wd_append_left (by omega)]; exact h j e
  · obtain rfl : j = i := by omega
    exact wd_snoc ho _

set_option maxHeartbeats 2000000 in
theorem rdown_any (A : Option Addr) (c n : Nat) (a : List Nat) (w : World) (k : Nat) (hk : k ≤ 1000000) (hn : n = a.length) (ha : RW w w.heap.size A c a) (hla : a.length ≤ 17592186044416) :
    Calls Try.prog 97 #[.slice A n c, .int .i64 (k : Int)] w (RetW w (val a / 2 ^ k)) := by
  subst hn
  have ba := ha.b32
  have hs32 : k % 32 < 32 := Nat.mod_lt _ (by omega)
  go_enter Try.func97, Try.ntmps97
  go_wp2
  go_loopw [5, 6] (fun sv iv wr => ∃ (i : Nat) (A' : Option Addr) (c' : Nat) (o : List Nat), (i = 0 ∨ k / 32 + i ≤ a.length) ∧ iv = .int .i64 ((k / 32 + i : Nat) : Int) ∧ sv = .slice A' o.length c' ∧ OW wr w.heap.size A' c' o ∧ Hid (o.length = i) ∧
      Hid (∀ j, j < i → wd o j = dnw (wd a (k / 32 + j)) (wd a (k / 32 + j + 1)) (k % 32)) ∧ Below w.heap.size w wr) (fun _ iv _ => (a.length - intOf iv).toNat)
  case atStart => exact ⟨0, _, 0, [], .inl rfl, by go_num, rfl, OW.empty w, rfl, fun j hj => absurd hj (by omega), (Below.refl w.heap.size w).alloc (Nat.le_refl _) _⟩
  case round =>
    obtain ⟨i, A', c', o, hi, rfl, rfl, hO, hol, hD, hbel⟩ := hrel
    have ha1 := (ha.below hbel).more hbel.size
    have hwx := wd_lt ba (k / 32 + i)
    have hwy := wd_lt ba (k / 32 + i + 1)
    by_cases h0 : k / 32 + i < a.length
    · have e3 : bits .or .u64 (wd a (k / 32 + i) : Int) ((wd a (k / 32 + i + 1) : Int) * 4294967296) = (x2 (wd a (k / 32 + i)) (wd a (k / 32 + i + 1)) : Int) := by
        have h5 : ((wd a (k / 32 + i + 1) : Int) * 4294967296) = ((wd a (k / 32 + i + 1) * 4294967296 : Nat) : Int) := by omega
        rw [h5, u64_or_nat _ _ (by omega) (by omega), or_hi hwx]; rfl
      have hx2 := x2_lt hwx hwy
      have e4 := dnw_int (wd a (k / 32 + i)) (wd a (k / 32 + i + 1)) (k % 32)
      have hst := Lib.hid (rdn_step hol.out hD.out)
      have hone := RW.one wr 52 (dnw_lt (wd a (k / 32 + i)) (wd a (k / 32 + i + 1)) (k % 32))
      have hb2 : Below w.heap.size w (wr.alloc (.cells #[.int .u32 (dnw (wd a (k / 32 + i)) (wd a (k / 32 + i + 1)) (k % 32) : Int)] 52)) := hbel.alloc hbel.size _
      have hol2 : o.length ≤ 17592186044416 := by have := hol.out; omega
      have hK : Hid ((o ++ [dnw (wd a (k / 32 + i)) (wd a (k / 32 + i + 1)) (k % 32)]).length = i + 1) := by show _ = _; rw [List.length_append, hol.out]; rfl
      clear hi
      go_wp2_with fail
      refine (word_k _ _ _ a _ _ (k / 32 + i) (by omega) rfl ha1).mono ?_; rintro e w' ⟨rfl, rfl⟩
      go_wp2_with fail
      refine (word_k _ _ _ a _ _ (k / 32 + i + 1) (by omega) rfl ha1).mono ?_; rintro e w' ⟨rfl, rfl⟩
      go_wp2_with (at_builtin; refine wp_appW _ rfl _ _ rfl w.heap.size _ _ _ o rfl rfl (hO.alloc _) _ _ _ [dnw (wd a (k / 32 + i)) (wd a (k / 32 + i + 1)) (k % 32)] rfl rfl _ hone (by simp; omega) hb2.size ?_; intro A2 c2 w2 g1 g2 g3)
      go_roundw
      case rel => exact ⟨i + 1, A2, c2, _, .inr (by omega), by go_num, by rw [List.length_append]; rfl, g1, hK, hst, hb2.trans g3⟩
      case measure => simp [intOf]; omega
    · have hil : Hid (o.length = a.length - k / 32) := by show _ = _; rw [hol.out]; rcases hi with h | h <;> omega
      have hfin := Lib.hid (down_all ba hil.out (fun j hj => hD.out j (by have := hol.out; omega)))
      have hO2 := hO.rw
      have hol2 : o.length ≤ 17592186044416 := by have := hil.out; omega
      clear hi
      go_wp2_with (go_at_call 70; refine (rnorm_any _ _ _ o _ rfl hO2).mono ?_; rintro e w3 ⟨A3, c3, rfl, g4, g5⟩)
      go_ret
      rw [hfin.out] at g4 ⊢
      exact ⟨A3, c3, rfl, g4.base_le hbel.size, hbel.trans (g5.mono hbel.size)⟩
end Go.Proofs.Ytkjfpaommbjgbaa
namespace Go.Proofs.Ytkjfpaommbjgbaa
open Go.RowKit

def shiftA (a : List Nat) (i : Int) : Nat × Int :=
  if soundB a then (if i < -16384 ∨ i > 16384 then (0, 1) else if i < 0 then (val a / 2 ^ (-i).toNat, 0) else fitA (val a * 2 ^ i.toNat)) else (0, 2)
theorem down_i (A : Option Addr) (c n : Nat) (a : List Nat) (w : World) (i : Int) (k : Nat) (hi : i = (k : Int)) (hk : k ≤ 1000000) (hn : n = a.length) (ha : RW w w.heap.size A c a) :
    Calls Try.prog 85 #[.slice A n c, .int .i64 i] w (RetW w (val a / 2 ^ k)) := by subst hi; exact down_any A c n a w k hk hn ha
theorem up_i (A : Option Addr) (c n : Nat) (a : List Nat) (w : World) (i : Int) (k : Nat) (hi : i = (k : Int)) (hk : k ≤ 1000000) (hn : n = a.length) (ha : RW w w.heap.size A c a) (hla : a.length ≤ 17592186044416) :
    Calls Try.prog 83 #[.slice A n c, .int .i64 i] w (RetW w (val a * 2 ^ k)) := by subst hi; exact up_any A c n a w k hk hn ha hla
theorem rdown_i (A : Option Addr) (c n : Nat) (a : List Nat) (w : World) (i : Int) (k : Nat) (hi : i = (k : Int)) (hk : k ≤ 1000000) (hn : n = a.length) (ha : RW w w.heap.size A c a) (hla : a.length ≤ 17592186044416) :
    Calls Try.prog 97 #[.slice A n c, .int .i64 i] w (RetW w (val a / 2 ^ k)) := by subst hi; exact rdown_any A c n a w k hk hn ha hla
theorem rup_i (A : Option Addr) (c n : Nat) (a : List Nat) (w : World) (i : Int) (k : Nat) (hi : i = (k : Int)) (hk : k ≤ 1000000) (hn : n = a.length) (ha : RW w w.heap.size A c a) (hla : a.length ≤ 17592186044416) :
    Calls Try.prog 90 #[.slice A n c, .int .i64 i] w (RetW w (val a * 2 ^ k)) := by subst hi; exact rup_any A c n a w k hk hn ha hla

end Go.Proofs.Ytkjfpaommbjgbaa
namespace Go.Proofs.Ytkjfpaommbjgbaa
open Go.RowKit

def sdiv (r x d : Nat) : Nat := (r * 4294967296 + x) / d
def smod (r x d : Nat) : Nat := (r * 4294967296 + x) % d
def scat (r x : Nat) : Nat := r * 4294967296 + x
theorem scat_or {r x : Nat} (hr : r < 4294967296) (hx : x < 4294967296) : bits .or .u64 ((r : Int) * 4294967296) (x : Int) = (scat r x : Int) := by
  have h : ((r : Int) * 4294967296) = ((r * 4294967296 : Nat) : Int) := by omega
  rw [h, u64_or_nat _ _ (by omega) (by omega), Nat.or_comm, or_hi hx, Nat.add_comm]; rfl
theorem scat_lt {r x : Nat} (hr : r < 4294967296) (hx : x < 4294967296) : scat r x ≤ 18446744073709551615 := by unfold scat; omega
theorem scat_div (r x d : Nat) : (scat r x : Int) / (d : Int) = (sdiv r x d : Int) := by unfold scat sdiv; simp
theorem scat_mod (r x d : Nat) : (scat r x : Int) % (d : Int) = (smod r x d : Int) := by unfold scat smod; simp

def RetW2 (w : World) (N r : Nat) (e : Ending) (w' : World) : Prop :=
  ∃ A' c', e = .returned (.tuple #[.slice A' (digs N).length c', .int .u32 (r : Int)]) ∧ OW w' w.heap.size A' c' (digs N) ∧ Below w.heap.size w w'

set_option maxHeartbeats 1000000 in
theorem short_any (A : Option Addr) (c n : Nat) (a : List Nat) (d : Nat) (w : World) (hd : 0 < d) (hd2 : d < 4294967296) (hn : n = a.length) (ha : RW w w.heap.size A c a) :
    Calls Try.prog 66 #[.slice A n c, .int .u32 (d : Int)] w (RetW2 w (val a / d) (val a % d)) := by
  subst hn
  have ba := ha.b32
  have hla := ha.big
  go_enter Try.func66, Try.ntmps66
  go_wp2_with (at_make; refine wp_makeW _ rfl _ _ rfl .i64 .i64 _ _ a.length rfl rfl (by omega) (by omega) (by omega) ?_; intro w1 hO1 hb1 hs1)
  go_loopw [7, 8] (fun rv iv wr => ∃ (k r : Nat) (o : List Nat), k ≤ a.length ∧ iv = .int .i64 ((k : Int) - 1) ∧ r < d ∧ rv = .int .u64 (r : Int) ∧ OW wr w.heap.size (some ⟨w.heap.size, 0, none⟩) a.length o ∧ Hid (o.length = a.length) ∧
      Hid (val (a.drop k) = val (o.drop k) * d + r) ∧ Below w.heap.size w wr) (fun _ iv _ => (intOf iv + 1).toNat)
  case atStart => exact ⟨a.length, 0, _, Nat.le_refl _, rfl, hd, rfl, hO1, by show _ = _; simp, by show _ = _; rw [List.drop_length, List.drop_of_length_le (by simp)]; simp [val], hb1⟩
  case round =>
    obtain ⟨k, r, o, hk, rfl, hr, rfl, hO, hol, hinv, hbel⟩ := hrel
    have ha1 := ha.below hbel
    by_cases h0 : 0 < k
    · obtain ⟨b1, o1, rfl, hlt1, hx⟩ := ha1.at_ (by omega)
      obtain ⟨j, rfl⟩ : ∃ j, k = j+1 := ⟨k-1, by omega⟩
      have hxk := hx j (by omega)
      have hwx := wd_lt ba j
      have hr2 : r < 4294967296 := by omega
      have hok : j < o.length := by have := hol.out; omega
      have hoc := hO.cell hok
      have hfz := hO.frozen j
      have e1 := scat_or hr2 hwx
      have hsl := scat_lt hr2 hwx
      have e2 := scat_div r (wd a j) d
      have e3 := scat_mod r (wd a j) d
      have hq : sdiv r (wd a j) d < 4294967296 := short_lt hd hr hwx
      have hrm : smod r (wd a j) d < d := Nat.mod_lt _ hd
      have hset := hO.set j hq
      have hst : Hid (val (a.drop j) = val ((o.set j (sdiv r (wd a j) d)).drop j) * d + smod r (wd a j) d) := short_step hd (by omega) hol.out hinv.out
      have hbel2 := hbel.setCell (p := ⟨w.heap.size, j, none⟩) (Nat.le_refl _) (.int .u32 (sdiv r (wd a j) d : Nat))
      clear hx ha ha1
      go_wp2
      go_roundw
      case rel => exact ⟨j, _, _, by omega, by go_num, hrm, rfl, hset, by show _ = _; rw [List.length_set]; exact hol.out, hst, hbel2⟩
      case measure => simp [intOf]
    · obtain rfl : k = 0 := by omega
      have hfin := hinv.out
      rw [List.drop_zero, List.drop_zero] at hfin
      have hf1 := Lib.hid (short_end hd hr hfin).1
      have hf2 := Lib.hid (short_end hd hr hfin).2
      clear hfin
      have hO2 := hO.rw
      go_wp2_with (go_at_call 62; refine (norm_any _ _ _ o _ hol.out.symm hO2).mono ?_; rintro e w' ⟨rfl, rfl⟩)
      go_ret2
      have hn := hO.norm
      rw [hf1.out] at hn ⊢
      rw [← hf2.out]
      exact ⟨_, _, rfl, hn, hbel⟩
end Go.Proofs.Ytkjfpaommbjgbaa
namespace Go.Proofs.Ytkjfpaommbjgbaa
open Go.RowKit

theorem digit_any (r : Nat) (w : World) (h : r < 36) : Calls Try.prog 71 #[.int .u32 (r : Int)] w fun e w' => e = .returned (.int .u8 ((dch r).toNat : Int)) ∧ w = w' := by
  have hd := dch_nat h
  by_cases h1 : r < 10
  · rw [if_pos h1] at hd
    have HD := Lib.hid hd; clear hd
    go_enter Try.func71, Try.ntmps71
    go_wp2
    go_ret
    exact ⟨ret_int (by rw [HD.out]; omega), rfl⟩
  · rw [if_neg h1] at hd
    have HD := Lib.hid hd; clear hd
    go_enter Try.func71, Try.ntmps71
    go_wp2
    go_ret
    exact ⟨ret_int (by rw [HD.out]; omega), rfl⟩

theorem dig_at (r : Nat) (h : r < 36) (h' : r < ({ data := #[48, 49, 50, 51, 52, 53, 54, 55, 56, 57, 97, 98, 99, 100, 101, 102, 103, 104, 105, 106, 107, 108, 109, 110, 111, 112, 113, 114, 115, 116, 117, 118, 119, 120, 121, 122] } : ByteArray).size) : (({ data := #[48, 49, 50, 51, 52, 53, 54, 55, 56, 57, 97, 98, 99, 100, 101, 102, 103, 104, 105, 106, 107, 108, 109, 110, 111, 112, 113, 114, 115, 116, 117, 118, 119, 120, 121, 122] } : ByteArray)[r]'h').toNat = (dch r).toNat := by
  have key : ∀ r : Fin 36, (({ data := #[48, 49, 50, 51, 52, 53, 54, 55, 56, 57, 97, 98, 99, 100, 101, 102, 103, 104, 105, 106, 107, 108, 109, 110, 111, 112, 113, 114, 115, 116, 117, 118, 119, 120, 121, 122] } : ByteArray)[r.val]'(r.isLt)).toNat = (dch r.val).toNat := by decide
  exact key ⟨r, h⟩

/-- what is left of the digits -/
def Left (b N0 N : Nat) (o : List UInt8) : Prop := (o = [] → N = N0) ∧ (o ≠ [] → o ++ rdg b N = rtx b N0)
theorem Left_step {b N0 N : Nat} {o : List UInt8} (hb : 2 ≤ b) (h : Left b N0 N o) (hN : N ≠ 0 ∨ o = []) : Left b N0 (N / b) (o ++ [dch (N % b)]) := by
  refine ⟨fun he => by simp at he, fun _ => ?_⟩
  by_cases ho : o = []
  · subst ho
    rw [h.1 rfl, rtx_first hb]; rfl
  · rcases hN with hN | hN
    · rw [← h.2 ho, rdg_pos hb hN]; simp
    · exact absurd hN ho
theorem Left_end {b N0 : Nat} {o : List UInt8} (h : Left b N0 0 o) (ho : o ≠ []) : o = rtx b N0 := by
  have := h.2 ho
  rw [rdg_zero, List.append_nil] at this
  exact this

theorem blen_div_lt {b : Nat} (hb : 2 ≤ b) (N : Nat) : blen (N / b) ≤ blen N ∧ (N ≠ 0 → blen (N / b) < blen N) := by
  by_cases h0 : N = 0
  · subst h0; simp
  · have h1 : N / b ≤ N / 2 := Nat.div_le_div_left hb (by omega)
    have h2 : blen (N / b) ≤ blen (N / 2) := blen_le.2 (Nat.lt_of_le_of_lt h1 (blen_lt _))
    have h3 := blen_pos h0
    exact ⟨by omega, fun _ => by omega⟩
theorem digs_or {N : Nat} {o : List UInt8} (h : N ≠ 0 ∨ o = []) : (N ≠ 0 ∧ 0 < (digs N).length) ∨ (¬ 0 < (digs N).length ∧ o = [] ∧ blen N = 0) := by
  by_cases h0 : N = 0
  · right; subst h0; rw [digs_zero]; exact ⟨by simp, h.resolve_left (fun h => h rfl), blen_zero⟩
  · left; exact ⟨h0, Nat.pos_of_ne_zero (fun h => h0 (digs_len0.1 h))⟩
/-- what lies in a new block stays behind an append to an elder one -/
theorem keepW {wr w2 w3 w5 : World} {base : Nat} {A2 A3 : Option Addr} {c2 c3 n : Nat} {o : List UInt8} {l : List Nat} (h3 : OW w2 wr.heap.size A3 c3 l) (ho : OB wr base A2 c2 o)
    (h : OW w3 wr.heap.size A3 c3 l) (hg : w3.grownBy w5 (Value.slice A2 n c2).ownBlock) : OW w5 wr.heap.size A3 c3 l := by
  refine h.grown hg fun g hA => ?_
  subst hA
  have h1 := h3.lt
  rcases OL.form ho with ⟨rfl, _⟩ | ⟨g2, rfl, _, h2, _⟩
  · simp [Value.ownBlock]
  · simp only [Value.ownBlock, ne_eq, Option.some.injEq]; omega

set_option maxHeartbeats 1000000 in
theorem text_loop (A : Option Addr) (c : Nat) (a : List Nat) (b : Nat) (w : World) (hb1 : 2 ≤ b) (hb2 : b ≤ 36) (ha : RW w w.heap.size A c a) (hs : soundB a = true) :
    Calls Try.prog 48 #[.slice A a.length c, .int .i64 (b : Int)] w fun e w' => e = .returned (.tuple #[.string ⟨(txt b (val a)).toArray⟩, .int .i64 0]) ∧ Below w.heap.size w w' := by
  have hck := check1_any A c a w 22 ha
  rw [hs] at hck
  have hB1 : Below w.heap.size w (w.alloc (.cells #[.slice A a.length c] 22)) := (Below.refl _ _).alloc (Nat.le_refl _) _
  have hd : a = digs (val a) := by simp only [soundB, decide_eq_true_eq] at hs; exact hs.2
  have HD := Lib.hid hd
  have hbl0 : blen (val a) ≤ 16384 := by
    have h5 : a.length ≤ 512 := by simp only [soundB, decide_eq_true_eq] at hs; exact hs.1
    exact Nat.le_trans (blen_le.2 (val_lt2 ha.b32)) (by omega)
  clear hs hd
  simp only [if_true] at hck
  go_enter Try.func48, Try.ntmps48
  go_wp2_with fail
  refine hck.mono ?_; rintro e w' ⟨rfl, rfl⟩
  go_wp2_with fail
  go_loopw [0, 7] (fun av ov wr => ∃ (N : Nat) (A1 : Option Addr) (c1 : Nat) (A2 : Option Addr) (c2 : Nat) (o : List UInt8), av = .slice A1 (digs N).length c1 ∧ RW wr wr.heap.size A1 c1 (digs N) ∧ ov = .slice A2 o.length c2 ∧ OB wr w.heap.size A2 c2 o ∧ o.length + blen N ≤ 20000 ∧
      Hid (Left b (val a) N o) ∧ Below w.heap.size w wr) (fun _ ov _ => 20001 - slen ov)
  case atStart => exact ⟨val a, A, c, none, 0, [], by rw [← HD.out], by rw [← HD.out]; exact ha.step hB1 (by simp), rfl, OL.nil _ _ _ _, by simp only [List.length_nil]; omega, ⟨fun _ => rfl, fun h => absurd rfl h⟩, hB1⟩
  case round =>
    obtain ⟨N, A1, c1, A2, c2, o, rfl, hR, rfl, hO, hol, hL, hbel⟩ := hrel
    have hsh := short_any A1 c1 _ (digs N) b wr (by omega) (by omega) rfl hR
    rw [val_digs] at hsh
    by_cases hgo : N ≠ 0 ∨ o = []
    · have hrb : N % b < b := Nat.mod_lt _ (by omega)
      have hst := Lib.hid (Left_step hb1 hL.out hgo)
      have hbl : blen (N / b) ≤ blen N ∧ (N ≠ 0 → blen (N / b) < blen N) := blen_div_lt hb1 N
      have ht1 : Hid ((N ≠ 0 ∧ 0 < (digs N).length) ∨ (¬ 0 < (digs N).length ∧ o = [] ∧ blen N = 0)) := digs_or hgo
      generalize N % b = r at *
      generalize N / b = m at *
      have e1 := dig_at r (by omega)
      have hone := fun w2 => RB.one w2 5 (dch r)
      rcases ht1.out with ⟨hN0, hl0⟩ | ⟨hl0, ho, hbN⟩
      · have hbl2 := hbl.2 hN0
        go_wp2_with fail
        refine hsh.mono ?_; rintro e w2 ⟨A3, c3, rfl, hO3, hb3⟩
        have hO1 := OL.below hO hb3 (Nat.le_refl _)
        have hB2 : Below w.heap.size w (w2.alloc (.cells #[.int .u8 ((dch r).toNat : Int)] 5)) := (hbel.trans (hb3.mono hbel.size)).alloc (Nat.le_trans hbel.size hb3.size) _
        go_wp2_with (at_builtin; refine wp_appB _ rfl _ _ rfl w.heap.size _ _ _ o rfl rfl (OL.alloc hO1 _) _ _ _ [dch r] rfl rfl _ (hone w2) (by simp; omega) hB2.size ?_; intro A5 c5 w5 g1 g2 g3)
        have hR5 := keepW hO3 hO (OW.alloc hO3 _) g2
        go_roundw
        case rel => exact ⟨m, A3, c3, A5, c5, _, rfl, hR5.rw, by rw [List.length_append]; rfl, g1, by rw [List.length_append]; simp only [List.length_cons, List.length_nil]; omega, hst, hB2.trans g3⟩
        case measure => simp [slen]; omega
      · have hol0 : o.length ≤ 0 := by rw [ho]; simp
        have ho0 : ((o.length : Int) == 0) = true := by simp [ho]
        have hbl2 := hbl.1
        have HO := Lib.hid ho; clear ho
        have HN := Lib.hid hbN
        have hbN2 : blen N ≤ 0 := by omega
        clear hbN
        go_wp2_with fail
        refine hsh.mono ?_; rintro e w2 ⟨A3, c3, rfl, hO3, hb3⟩
        have hO1 := OL.below hO hb3 (Nat.le_refl _)
        have hB2 : Below w.heap.size w (w2.alloc (.cells #[.int .u8 ((dch r).toNat : Int)] 5)) := (hbel.trans (hb3.mono hbel.size)).alloc (Nat.le_trans hbel.size hb3.size) _
        go_wp2_with (at_builtin; refine wp_appB _ rfl _ _ rfl w.heap.size _ _ _ o rfl rfl (OL.alloc hO1 _) _ _ _ [dch r] rfl rfl _ (hone w2) (by simp; omega) hB2.size ?_; intro A5 c5 w5 g1 g2 g3)
        have hR5 := keepW hO3 hO (OW.alloc hO3 _) g2
        go_roundw
        case rel => exact ⟨m, A3, c3, A5, c5, _, rfl, hR5.rw, by rw [List.length_append]; rfl, g1, by rw [List.length_append]; simp only [List.length_cons, List.length_nil]; omega, hst, hB2.trans g3⟩
        case measure => simp [slen]; omega
    · have hN : N = 0 := by
        rcases Nat.eq_zero_or_pos N with h | h
        · exact h
        · exact absurd (.inl (by omega)) hgo
      have ho : o ≠ [] := fun h => hgo (.inr h)
      subst hN
      have hrt := Lib.hid (Left_end hL.out ho)
      have hl0 : ¬ 0 < (digs 0).length := by rw [digs_zero]; simp
      have hol0 : 0 < o.length := List.length_pos_iff.2 ho
      have ho0 : ((o.length : Int) == 0) = false := beq_eq_false_iff_ne.2 (by omega)
      clear hgo ho hsh
      have hA2 : ∃ b off, A2 = some ⟨b, off, none⟩ := by
        rcases OL.form hO with ⟨_, _, he⟩ | ⟨g, rfl, _⟩
        · rw [he] at hol0; simp at hol0
        · exact ⟨g, 0, rfl⟩
      go_wp2_with fail
      refine (reverse_any A2 c2 _ o wr w.heap.size rfl hO).mono ?_; rintro e w2 ⟨rfl, hO2, hb2⟩
      have hconv := conv_bytes (OL.rl hO2) hA2
      rw [List.length_reverse] at hconv
      go_wp2_with fail
      go_ret2
      refine ⟨?_, hbel.trans hb2⟩
      rw [← rtx_rev, ← hrt.out]
      rfl

/-- an answer that is a text with an error's number -/
def RetT (w : World) (t : List UInt8 × Int) (e : Ending) (w' : World) : Prop := e = .returned (.tuple #[.string ⟨t.1.toArray⟩, .int .i64 t.2]) ∧ Below w.heap.size w w'
def textA (a : List Nat) (b : Int) : List UInt8 × Int := if soundB a then (if b < 2 ∨ b > 36 then ([], 1) else (txt b.toNat (val a), 0)) else ([], 2)
theorem text_any (A : Option Addr) (c n : Nat) (a : List Nat) (b : Int) (w : World) (hn : n = a.length) (ha : RW w w.heap.size A c a) :
    Calls Try.prog 48 #[.slice A n c, .int .i64 b] w (RetT w (textA a b)) := by
  subst hn
  have hck := check1_any A c a w 22 ha
  have hB1 : Below w.heap.size w (w.alloc (.cells #[.slice A a.length c] 22)) := (Below.refl _ _).alloc (Nat.le_refl _) _
  unfold textA
  cases hs : soundB a with
  | true =>
    rw [hs] at hck
    by_cases h1 : b < 2
    · rw [if_pos rfl, if_pos (Or.inl h1)]
      clear hs
      go_enter Try.func48, Try.ntmps48
      go_wp2_with fail
      refine hck.mono ?_; rintro e w' ⟨rfl, rfl⟩
      go_wp2_with fail
      go_ret2
      exact ⟨rfl, hB1⟩
    · by_cases h2 : b > 36
      · rw [if_pos rfl, if_pos (Or.inr h2)]
        clear hs
        go_enter Try.func48, Try.ntmps48
        go_wp2_with fail
        refine hck.mono ?_; rintro e w' ⟨rfl, rfl⟩
        go_wp2_with fail
        go_ret2
        exact ⟨rfl, hB1⟩
      · rw [if_pos rfl, if_neg (by omega)]
        have h := text_loop A c a b.toNat w (by omega) (by omega) ha hs
        rw [Int.toNat_of_nonneg (by omega)] at h
        exact h
  | false =>
    rw [hs] at hck
    clear hs
    go_enter Try.func48, Try.ntmps48
    go_wp2_with fail
    refine hck.mono ?_; rintro e w' ⟨rfl, rfl⟩
    go_wp2_with fail
    go_ret2
    exact ⟨rfl, hB1⟩
end Go.Proofs.Ytkjfpaommbjgbaa
namespace Go.Proofs.Ytkjfpaommbjgbaa
open Go.RowKit

theorem own_ne {w : World} {b1 b2 : Nat} {A1 A2 : Option Addr} {c1 c2 : Nat} {l : List Nat} {o : List UInt8} {g1 g2 : Nat} (h1 : OW w b1 A1 c1 l) (h2 : OB w b2 A2 c2 o) (e1 : A1 = some ⟨g1, 0, none⟩) (e2 : A2 = some ⟨g2, 0, none⟩) : g2 ≠ g1 := by
  subst e1 e2
  rintro rfl
  rcases h1.1.1.2 with ⟨h, _⟩ | ⟨g, cap, cur, h, _, hh, _⟩
  · cases h
  · rcases OL.form h2 with _ | _
    all_goals
      rcases h2.1.2 with ⟨h', _⟩ | ⟨g', cap', cur', h', _, hh', _⟩
      · cases h'
      · simp only [Value.slice.injEq, Option.some.injEq, Addr.mk.injEq, and_true, true_and] at h h'
        obtain ⟨rfl, _⟩ := h
        obtain ⟨rfl, _⟩ := h'
        rw [hh] at hh'
        simp at hh'
def Sv (l o : List Nat) (k r b : Nat) : Prop := o.length = l.length ∧ (∀ t, t < k → wd o t = wd l t) ∧ val (l.drop k) = val (o.drop k) * b + r
theorem Sv_step {l o : List Nat} {j r b : Nat} (hb : 0 < b) (hj : j < l.length) (h : Sv l o (j + 1) r b) : Sv l (o.set j (sdiv r (wd o j) b)) j (smod r (wd o j) b) b := by
  refine ⟨by rw [List.length_set]; exact h.1, fun t ht => ?_, ?_⟩
  · rw [wd_set_ne (by omega)]; exact h.2.1 t (by omega)
  · have := short_step hb hj h.1 h.2.2
    rw [h.2.1 j (by omega)]; exact this
theorem Sv_end {N r b : Nat} {o : List Nat} (hb : 0 < b) (hr : r < b) (h : Sv (digs N) o 0 r b) : val o = N / b ∧ r = N % b := by
  have h3 := h.2.2
  rw [List.drop_zero, List.drop_zero, val_digs] at h3
  exact short_end hb hr h3
theorem cat_div (r x d : Nat) : ((r : Int) * 4294967296 + (x : Int)) / (d : Int) = (sdiv r x d : Int) := by unfold sdiv; simp
theorem cat_mod (r x d : Nat) : ((r : Int) * 4294967296 + (x : Int)) % (d : Int) = (smod r x d : Int) := by unfold smod; simp
def RLeft (b N0 N : Nat) (o : List UInt8) : Prop := o ++ rdg b N = rdg b N0
theorem RLeft_step {b N0 N : Nat} {o : List UInt8} (hb : 2 ≤ b) (h : RLeft b N0 N o) (hN : N ≠ 0) : RLeft b N0 (N / b) (o ++ [dch (N % b)]) := by
  unfold RLeft at *
  rw [← h, rdg_pos hb hN]; simp

set_option maxHeartbeats 4000000 in
theorem rtext_loop (A : Option Addr) (c : Nat) (a : List Nat) (b : Nat) (w : World) (hb1 : 2 ≤ b) (hb2 : b ≤ 36) (ha : RW w w.heap.size A c a) (hs : soundB a = true) :
    Calls Try.prog 50 #[.slice A a.length c, .int .i64 (b : Int)] w fun e w' => e = .returned (.tuple #[.string ⟨(txt b (val a)).toArray⟩, .int .i64 0]) ∧ Below w.heap.size w w' := by
  have hck := rsound_any A c _ a w rfl ha
  rw [hs] at hck
  have hbl0 : blen (val a) ≤ 16384 := by
    have h5 : a.length ≤ 512 := by simp only [soundB, decide_eq_true_eq] at hs; exact hs.1
    exact Nat.le_trans (blen_le.2 (val_lt2 ha.b32)) (by omega)
  clear hs
  have hB1 : Below w.heap.size w (w.alloc (.cells #[] 5)) := (Below.refl _ _).alloc (Nat.le_refl _) _
  have hnm := rnorm_any A c _ a (w.alloc (.cells #[] 5)) rfl (ha.step hB1 (by simp))
  go_enter Try.func50, Try.ntmps50
  go_wp2_with fail
  refine hck.mono ?_; rintro e w' ⟨rfl, rfl⟩
  go_wp2_with fail
  refine hnm.mono ?_; rintro e w1 ⟨A1, c1, rfl, hO1, hb1'⟩
  have hB2 := hB1.trans (hb1'.mono (by simp))
  go_wp2_with fail
  go_loopw [6, 7] (fun ov av wr => ∃ (N : Nat) (A1 : Option Addr) (c1 : Nat) (A2 : Option Addr) (c2 : Nat) (o : List UInt8), av = .slice A1 (digs N).length c1 ∧ OW wr w.heap.size A1 c1 (digs N) ∧ ov = .slice A2 o.length c2 ∧ OB wr w.heap.size A2 c2 o ∧ o.length + blen N ≤ 20000 ∧
      Hid (RLeft b (val a) N o) ∧ Below w.heap.size w wr) (fun ov _ _ => 20001 - slen ov)
  case atStart => exact ⟨val a, A1, c1, _, _, [], rfl, hO1.base_le (by simp), rfl, OL.below (OB.empty w) hb1' (Nat.le_refl _), by simp only [List.length_nil]; omega, rfl, hB2⟩
  case round =>
    obtain ⟨N, A1, c1, A2, c2, o, rfl, hO1, rfl, hO, hol, hL, hbel⟩ := hrel
    obtain ⟨wo, rfl⟩ : ∃ wo : World, wo = wr := ⟨_, rfl⟩
    by_cases hN : N = 0
    · subst hN
      have hl0 : ¬ 0 < (digs 0).length := by rw [digs_zero]; simp
      have hfin := hL.out
      unfold RLeft at hfin
      rw [rdg_zero, List.append_nil] at hfin
      by_cases hol0 : o.length = 0
      · have ho0 : ((o.length : Int) == 0) = true := by simp [hol0]
        have hv : Hid (txt b (val a) = [48]) := by
          show _ = _
          unfold txt
          rw [if_pos]
          by_cases h0 : val a = 0
          · exact h0
          · rw [rdg_pos hb1 h0] at hfin
            rw [hfin] at hol0; simp at hol0
        clear hfin hol0
        go_wp2_with fail
        go_ret2
        refine ⟨?_, hbel⟩
        rw [hv.out]; rfl
      · have ho0 : ((o.length : Int) == 0) = false := beq_eq_false_iff_ne.2 (by omega)
        have hv : Hid (txt b (val a) = o.reverse) := by
          show _ = _
          unfold txt
          rw [if_neg, hfin]
          intro h0; rw [h0, rdg_zero] at hfin; rw [hfin] at hol0; exact hol0 rfl
        have hpos : 0 < o.length := by omega
        clear hfin hol0
        have hB3 : Below w.heap.size w (wo.alloc (.cells #[] 5)) := hbel.alloc hbel.size _
        go_wp2_with fail
        go_loopw [10, 11] (fun ov iv wr => ∃ (k : Nat) (A3 : Option Addr) (c3 : Nat) (l : List UInt8), k ≤ o.length ∧ iv = .int .i64 ((k : Int) - 1) ∧ ov = .slice A3 l.length c3 ∧ OB wr wo.heap.size A3 c3 l ∧ Hid (l = (o.drop k).reverse) ∧ RB wr wo.heap.size A2 c2 o ∧ Below w.heap.size w wr ∧ wo.heap.size ≤ wr.heap.size) (fun _ iv _ => (intOf iv + 1).toNat)
        case atStart => exact ⟨o.length, _, 0, [], Nat.le_refl _, rfl, rfl, OB.empty wo, by show _ = _; rw [List.drop_length]; rfl, RL.below (OL.rl hO) ((Below.refl _ _).alloc (Nat.le_refl _) _), hB3, by simp⟩
        case round =>
          obtain ⟨k, A3, c3, l, hk, rfl, rfl, hO3, hl, hRB, hbel3, hsz3⟩ := hrel
          have hll : l.length ≤ 20000 := by rw [hl.out, List.length_reverse, List.length_drop]; omega
          by_cases h0 : 0 < k
          · obtain ⟨j, rfl⟩ : ∃ j, k = j+1 := ⟨k-1, by omega⟩
            obtain ⟨b1, o1, rfl, hlt1, hx⟩ := RL.at_ hRB (by omega)
            have hxk := hx j _ (bg_get? (l := o) (k := j) (by omega))
            simp only [f8] at hxk
            have hst : Hid (l ++ [bg o j] = (o.drop j).reverse) := by
              show _ = _
              rw [hl.out, List.drop_eq_getElem_cons (by omega : j < o.length), List.reverse_cons]
              congr 2
              have := bg_get? (l := o) (k := j) (by omega)
              rw [List.getElem?_eq_getElem (by omega)] at this
              exact (Option.some.inj this).symm
            have hB4 : Below w.heap.size w (wr.alloc (.cells #[.int .u8 ((bg o j).toNat : Int)] 5)) := hbel3.alloc hbel3.size _
            clear hx
            go_wp2_with (at_builtin; refine wp_appB _ rfl _ _ rfl wo.heap.size _ _ _ l rfl rfl (OL.alloc hO3 _) _ _ _ [bg o j] rfl rfl _ (RB.one wr 5 (bg o j)) (by simp; omega) (by simp; omega) ?_; intro A5 c5 w5 k1 k2 k3)
            have hB5 : Below wo.heap.size wr w5 := ((Below.refl wo.heap.size wr).alloc hsz3 _).trans k3
            go_roundw
            case rel => exact ⟨j, A5, c5, _, by omega, by go_num, by rw [List.length_append]; rfl, k1, hst, RL.below hRB hB5, hbel3.trans (hB5.mono hbel.size), Nat.le_trans hsz3 hB5.size⟩
            case measure => simp [intOf]
          · obtain rfl : k = 0 := by omega
            have hl0' : l = o.reverse := by rw [hl.out, List.drop_zero]
            have HL := Lib.hid hl0'
            have hlpos : 0 < l.length := by rw [hl0', List.length_reverse]; exact hpos
            clear hl0'
            have hA3 : ∃ b off, A3 = some ⟨b, off, none⟩ := by
              rcases OL.form hO3 with ⟨_, _, he⟩ | ⟨g, rfl, _⟩
              · rw [he] at hlpos; simp at hlpos
              · exact ⟨g, 0, rfl⟩
            have hconv := conv_bytes (OL.rl hO3) hA3
            go_wp2_with fail
            go_ret2
            refine ⟨?_, hbel3⟩
            rw [hv.out, ← HL.out]; rfl
    · have hl0 : 0 < (digs N).length := Nat.pos_of_ne_zero (fun h => hN (digs_len0.1 h))
      obtain ⟨g1, rfl⟩ : ∃ g, A1 = some ⟨g, 0, none⟩ := by
        rcases hO1.form with ⟨_, _, he⟩ | ⟨g, rfl, _⟩
        · rw [he] at hl0; simp at hl0
        · exact ⟨g, rfl⟩
      have hst := Lib.hid (RLeft_step hb1 hL.out hN)
      have hbl := (blen_div_lt hb1 N).2 hN
      have hlb := hO1.big
      go_wp2_with fail
      go_loopw [8, 9] (fun rv iv wr => ∃ (k r : Nat) (l : List Nat), k ≤ (digs N).length ∧ iv = .int .i64 ((k : Int) - 1) ∧ r < b ∧ rv = .int .u64 (r : Int) ∧ OW wr w.heap.size (some ⟨g1, 0, none⟩) c1 l ∧ Hid (Sv (digs N) l k r b) ∧ OB wr w.heap.size A2 c2 o ∧ Below w.heap.size w wr) (fun _ iv _ => (intOf iv + 1).toNat)
      case atStart => exact ⟨(digs N).length, 0, _, Nat.le_refl _, rfl, by omega, rfl, hO1, ⟨rfl, fun t _ => rfl, by rw [List.drop_length]; simp [val]⟩, hO, hbel⟩
      case round =>
        obtain ⟨k, r, l, hk, rfl, hr, rfl, hW, hSv, hO, hbel⟩ := hrel
        by_cases h0 : 0 < k
        · obtain ⟨j, rfl⟩ : ∃ j, k = j+1 := ⟨k-1, by omega⟩
          have hok : j < l.length := by have := hSv.out.1; omega
          have hoc := hW.cell hok
          have hfz := hW.frozen j
          have hwx := wd_lt hW.b32 j
          have e2 := cat_div r (wd l j) b
          have e3 := cat_mod r (wd l j) b
          have hq : sdiv r (wd l j) b < 4294967296 := short_lt (by omega) hr hwx
          have hrm : smod r (wd l j) b < b := Nat.mod_lt _ (by omega)
          have hset := hW.set j hq
          have hst2 := Lib.hid (Sv_step (by omega) (by omega) hSv.out)
          have hfar := OL.far hO (p := ⟨g1, j, none⟩) (fun g2 h2 => own_ne hW hO rfl h2) (.int .u32 (sdiv r (wd l j) b : Nat))
          have hbel2 := hbel.setCell (p := ⟨g1, j, none⟩) hW.lt.1 (.int .u32 (sdiv r (wd l j) b : Nat))
          go_wp2
          go_roundw
          case rel => exact ⟨j, _, _, by omega, by go_num, hrm, rfl, hset, hst2, hfar, hbel2⟩
          case measure => simp [intOf]
        · obtain rfl : k = 0 := by omega
          have hf1 := Lib.hid (Sv_end (by omega) hr hSv.out).1
          have hf2 := Lib.hid (Sv_end (by omega) hr hSv.out).2
          have hW2 := hW.rw
          have hll : l.length = (digs N).length := hSv.out.1
          have HLL := Lib.hid hll
          have hnm := rnorm_any (some ⟨g1, 0, none⟩) c1 (digs N).length l wr hll.symm hW2
          rw [hf1.out] at hnm
          have hdg := digit_any r
          clear hll
          go_wp2_with fail
          refine hnm.mono ?_; rintro e w2 ⟨A3, c3, rfl, hO3, hb3⟩
          go_wp2_with fail
          refine (hdg _ (by omega)).mono ?_; rintro e w' ⟨rfl, rfl⟩
          have hO5 := OL.below hO hb3 (Nat.le_refl _)
          have hB3 := hbel.trans (hb3.mono hbel.size)
          have hB4 : Below w.heap.size w (w2.alloc (.cells #[.int .u8 ((dch r).toNat : Int)] 5)) := hB3.alloc hB3.size _
          go_wp2_with (at_builtin; refine wp_appB _ rfl _ _ rfl w.heap.size _ _ _ o rfl rfl (OL.alloc hO5 _) _ _ _ [dch r] rfl rfl _ (RB.one w2 5 (dch r)) (by simp; omega) hB4.size ?_; intro A5 c5 w5 k1 k2 k3)
          have hR5 := keepW hO3 hO (OW.alloc hO3 _) k2
          rw [hf2.out] at k1
          go_roundw
          case rel => exact ⟨N / b, A3, c3, A5, c5, _, rfl, hR5.base_le hbel.size, by rw [List.length_append]; rfl, k1, by rw [List.length_append]; simp only [List.length_cons, List.length_nil]; omega, hst, hB4.trans k3⟩
          case measure => simp [slen]; omega

theorem rtext_any (A : Option Addr) (c n : Nat) (a : List Nat) (b : Int) (w : World) (hn : n = a.length) (ha : RW w w.heap.size A c a) :
    Calls Try.prog 50 #[.slice A n c, .int .i64 b] w (RetT w (textA a b)) := by
  subst hn
  have hck := rsound_any A c _ a w rfl ha
  unfold textA
  cases hs : soundB a with
  | true =>
    rw [hs] at hck
    by_cases h1 : b < 2
    · rw [if_pos rfl, if_pos (Or.inl h1)]
      clear hs
      go_enter Try.func50, Try.ntmps50
      go_wp2_with fail
      refine hck.mono ?_; rintro e w' ⟨rfl, rfl⟩
      go_wp2_with fail
      go_ret2
      exact ⟨rfl, Below.refl _ _⟩
    · by_cases h2 : b > 36
      · rw [if_pos rfl, if_pos (Or.inr h2)]
        clear hs
        go_enter Try.func50, Try.ntmps50
        go_wp2_with fail
        refine hck.mono ?_; rintro e w' ⟨rfl, rfl⟩
        go_wp2_with fail
        go_ret2
        exact ⟨rfl, Below.refl _ _⟩
      · rw [if_pos rfl, if_neg (by omega)]
        have h := rtext_loop A c a b.toNat w (by omega) (by omega) ha hs
        rw [Int.toNat_of_nonneg (by omega)] at h
        exact h
  | false =>
    rw [hs] at hck
    clear hs
    go_enter Try.func50, Try.ntmps50
    go_wp2_with fail
    refine hck.mono ?_; rintro e w' ⟨rfl, rfl⟩
    go_wp2_with fail
    go_ret2
    exact ⟨rfl, Below.refl _ _⟩
end Go.Proofs.Ytkjfpaommbjgbaa
namespace Go.Proofs.Ytkjfpaommbjgbaa
open Go.RowKit

def digL : List UInt8 := [48, 49, 50, 51, 52, 53, 54, 55, 56, 57, 97, 98, 99, 100, 101, 102, 103, 104, 105, 106, 107, 108, 109, 110, 111, 112, 113, 114, 115, 116, 117, 118, 119, 120, 121, 122]
def vk (b : Nat) : Int := Lib.indexByte digL (b ||| 32).toUInt8
/-- what the three tests of nat.Value come to -/
def vtest (b : Nat) : Bool := decide (10 ≤ vk b) && ((b ||| 32) != b || decide (97 ≤ b))
theorem value_facts : ∀ b : Fin 256, (vtest b.val = true → vk b.val = (dval b.val : Int)) ∧ (vtest b.val = false → dval b.val = if 48 ≤ b.val ∧ b.val ≤ 57 then b.val - 48 else 99) ∧ -1 ≤ vk b.val ∧ vk b.val ≤ 35 := by decide +kernel

theorem value_any (b : Nat) (w : World) (h : b < 256) : Calls Try.prog 72 #[.int .u8 (b : Int)] w fun e w' => e = .returned (.int .i64 (dval b)) ∧ w = w' := by
  obtain ⟨f1, f2, f3, f4⟩ := value_facts ⟨b, h⟩
  simp only at f1 f2 f3 f4
  have e1 : bits .or .u8 (b : Int) 32 = ((b ||| 32 : Nat) : Int) := u8_or_nat b 32 h (by omega)
  have hlt : b ||| 32 < 256 := Nat.or_lt_two_pow (n := 8) h (by omega)
  have hI := fun w => (Try.strings_IndexByte ⟨#[48, 49, 50, 51, 52, 53, 54, 55, 56, 57, 97, 98, 99, 100, 101, 102, 103, 104, 105, 106, 107, 108, 109, 110, 111, 112, 113, 114, 115, 116, 117, 118, 119, 120, 121, 122]⟩ ((b ||| 32 : Nat) : Int) w)
  have hv : Lib.indexByte (⟨#[48, 49, 50, 51, 52, 53, 54, 55, 56, 57, 97, 98, 99, 100, 101, 102, 103, 104, 105, 106, 107, 108, 109, 110, 111, 112, 113, 114, 115, 116, 117, 118, 119, 120, 121, 122]⟩ : ByteArray).data.toList ((b ||| 32 : Nat) : Int).toNat.toUInt8 = vk b := rfl
  rw [hv] at hI
  unfold vtest at f1 f2
  have F1 := Lib.hid f1
  have F2 := Lib.hid f2
  clear hv f1 f2
  generalize vk b = k at *
  generalize hob : b ||| 32 = o at *
  have HO := Lib.hid hob
  clear hob
  by_cases c1 : 10 ≤ k
  · have t1 : decide ((10 : Int) ≤ k) = true := by simpa using c1
    by_cases c2 : o = b
    · have t2 : ((o : Int) != (b : Int)) = false := by simp [c2]
      by_cases c3 : 97 ≤ b
      · have t3 : decide ((97 : Int) ≤ (b : Int)) = true := by simp; omega
        have HV : Hid (k = (dval b : Int)) := F1.out (by simp [c1, c3])
        clear c2
        go_enter Try.func72, Try.ntmps72
        go_wp2_with (go_at_call 92; refine (hI _).mono ?_; rintro e w' ⟨rfl, rfl⟩)
        go_ret
        exact ⟨ret_int HV.out, rfl⟩
      · have t3 : decide ((97 : Int) ≤ (b : Int)) = false := by simp; omega
        have HV : Hid (dval b = if 48 ≤ b ∧ b ≤ 57 then b - 48 else 99) := F2.out (by simp [c2, c3])
        clear c2
        by_cases c4 : 48 ≤ b
        · have t4 : decide ((48 : Int) ≤ (b : Int)) = true := by simp; omega
          by_cases c5 : b ≤ 57
          · have t5 : decide ((b : Int) ≤ 57) = true := by simp; omega
            go_enter Try.func72, Try.ntmps72
            go_wp2_with (go_at_call 92; refine (hI _).mono ?_; rintro e w' ⟨rfl, rfl⟩)
            go_ret
            exact ⟨ret_int (by rw [HV.out, if_pos ⟨c4, c5⟩]; omega), rfl⟩
          · have t5 : decide ((b : Int) ≤ 57) = false := by simp; omega
            go_enter Try.func72, Try.ntmps72
            go_wp2_with (go_at_call 92; refine (hI _).mono ?_; rintro e w' ⟨rfl, rfl⟩)
            go_ret
            exact ⟨ret_int (by rw [HV.out, if_neg (by omega)]; rfl), rfl⟩
        · have t4 : decide ((48 : Int) ≤ (b : Int)) = false := by simp; omega
          go_enter Try.func72, Try.ntmps72
          go_wp2_with (go_at_call 92; refine (hI _).mono ?_; rintro e w' ⟨rfl, rfl⟩)
          go_ret
          exact ⟨ret_int (by rw [HV.out, if_neg (by omega)]; rfl), rfl⟩
    · have t2 : ((o : Int) != (b : Int)) = true := by simp; omega
      have HV : Hid (k = (dval b : Int)) := F1.out (by simp [c1, c2])
      go_enter Try.func72, Try.ntmps72
      go_wp2_with (go_at_call 92; refine (hI _).mono ?_; rintro e w' ⟨rfl, rfl⟩)
      go_ret
      exact ⟨ret_int HV.out, rfl⟩
  · have t1 : decide ((10 : Int) ≤ k) = false := by simp; omega
    have HV : Hid (dval b = if 48 ≤ b ∧ b ≤ 57 then b - 48 else 99) := F2.out (by simp [c1])
    by_cases c4 : 48 ≤ b
    · have t4 : decide ((48 : Int) ≤ (b : Int)) = true := by simp; omega
      by_cases c5 : b ≤ 57
      · have t5 : decide ((b : Int) ≤ 57) = true := by simp; omega
        go_enter Try.func72, Try.ntmps72
        go_wp2_with (go_at_call 92; refine (hI _).mono ?_; rintro e w' ⟨rfl, rfl⟩)
        go_ret
        exact ⟨ret_int (by rw [HV.out, if_pos ⟨c4, c5⟩]; omega), rfl⟩
      · have t5 : decide ((b : Int) ≤ 57) = false := by simp; omega
        go_enter Try.func72, Try.ntmps72
        go_wp2_with (go_at_call 92; refine (hI _).mono ?_; rintro e w' ⟨rfl, rfl⟩)
        go_ret
        exact ⟨ret_int (by rw [HV.out, if_neg (by omega)]; rfl), rfl⟩
    · have t4 : decide ((48 : Int) ≤ (b : Int)) = false := by simp; omega
      go_enter Try.func72, Try.ntmps72
      go_wp2_with (go_at_call 92; refine (hI _).mono ?_; rintro e w' ⟨rfl, rfl⟩)
      go_ret
      exact ⟨ret_int (by rw [HV.out, if_neg (by omega)]; rfl), rfl⟩

theorem match_facts : ∀ b : Fin 256, ∀ n : Fin 36, (((b.val == (dch n.val).toNat) || (decide (10 ≤ n.val) && (b.val == (dch n.val).toNat - 32))) = true ↔ dval b.val = n.val) := by decide +kernel
theorem dch_ge {n : Nat} (h : n < 36) : 48 ≤ (dch n).toNat ∧ (dch n).toNat < 256 := by rw [dch_nat h]; split <;> omega

set_option maxHeartbeats 1000000 in
theorem rvalue_any (b : Nat) (w : World) (h : b < 256) : Calls Try.prog 56 #[.int .u8 (b : Int)] w fun e w' => e = .returned (.int .u32 (dval b)) ∧ w = w' := by
  have h99 := dval_36 b
  go_enter Try.func56, Try.ntmps56
  go_wp2
  go_loop [3] (fun n => ∃ k : Nat, k ≤ 36 ∧ n = .int .u32 k ∧ k ≤ dval b) (fun i => (36 - intOf i).toNat)
  case atStart => exact ⟨0, by omega, rfl, by omega⟩
  case round =>
    obtain ⟨k, hk, rfl, hle⟩ := hrel
    by_cases h0 : k < 36
    · have hf := match_facts ⟨b, h⟩ ⟨k, h0⟩
      simp only at hf
      have hd := dch_ge h0
      have hdg := digit_any k
      by_cases c1 : b = (dch k).toNat
      · have t1 : ((b : Int) == ((dch k).toNat : Int)) = true := by simp [c1]
        have HV : Hid (dval b = k) := hf.1 (by simp [c1])
        clear c1 hf
        go_wp2_with (go_at_call 71; refine (hdg _ h0).mono ?_; rintro e w' ⟨rfl, rfl⟩)
        go_ret
        exact ⟨ret_int (by rw [HV.out]), rfl⟩
      · have t1 : ((b : Int) == ((dch k).toNat : Int)) = false := beq_eq_false_iff_ne.2 (by omega)
        by_cases c2 : 10 ≤ k
        · have t2 : decide ((10 : Int) ≤ (k : Int)) = true := by simp; omega
          by_cases c3 : b = (dch k).toNat - 32
          · have t3 : ((b : Int) == ((dch k).toNat : Int) - 32) = true := by simp; omega
            have HV : Hid (dval b = k) := hf.1 (by simp [c2, c3])
            clear c3 hf
            go_wp2_with (go_at_call 71; refine (hdg _ h0).mono ?_; rintro e w' ⟨rfl, rfl⟩)
            go_ret
            exact ⟨ret_int (by rw [HV.out]), rfl⟩
          · have t3 : ((b : Int) == ((dch k).toNat : Int) - 32) = false := beq_eq_false_iff_ne.2 (by omega)
            have hne : dval b ≠ k := fun he => by have := hf.2 he; simp [c1, c3] at this
            clear hf
            go_wp2_with (go_at_call 71; refine (hdg _ h0).mono ?_; rintro e w' ⟨rfl, rfl⟩)
            go_round
            case rel => exact ⟨k + 1, by omega, by go_num, by omega⟩
            case measure => simp [intOf]; omega
        · have t2 : decide ((10 : Int) ≤ (k : Int)) = false := by simp; omega
          have hne : dval b ≠ k := fun he => by have := hf.2 he; simp [c1, c2] at this
          clear hf
          go_wp2_with (go_at_call 71; refine (hdg _ h0).mono ?_; rintro e w' ⟨rfl, rfl⟩)
          go_round
          case rel => exact ⟨k + 1, by omega, by go_num, by omega⟩
          case measure => simp [intOf]; omega
    · obtain rfl : k = 36 := by omega
      have HV : Hid (dval b = 99) := by show _ = _; omega
      go_wp2
      go_ret
      exact ⟨ret_int (by rw [HV.out]; rfl), rfl⟩
end Go.Proofs.Ytkjfpaommbjgbaa
namespace Go.Proofs.Ytkjfpaommbjgbaa
open Go.RowKit

def readD (l : List UInt8) (b : Nat) : Nat × Int := if okd b l then (if l.length > 16384 then (0, 4) else fitA (rdv b 0 l)) else (0, 5)
def readA (l : List UInt8) (b : Int) : Nat × Int :=
  if b < 2 ∨ b > 36 then (0, 1) else if l = [] then (0, 5) else readD l b.toNat
theorem s_at {s : ByteArray} {k : Nat} (h : k < s.size) : (s[k]'h).toNat = byt s.data.toList k := by
  unfold byt
  have h2 : k < s.data.toList.length := by rw [Array.length_toList]; exact h
  rw [List.getD_eq_getElem?_getD, List.getElem?_eq_getElem h2]
  rfl
theorem s_len (s : ByteArray) : s.data.toList.length = s.size := by rw [Array.length_toList]; rfl

theorem ne_empty {s : ByteArray} (h : s.size ≠ 0) : s.toList.isEmpty = false := by
  rw [List.isEmpty_eq_false_iff]
  intro h1
  have := (toList_nil_iff_emptyBytes s).1 h1
  subst this; exact h rfl
theorem readD_bad {l : List UInt8} {b k : Nat} (h : k < l.length) (hd : ¬ dval (byt l k) < b) : readD l b = (0, 5) := by unfold readD; rw [okd_false h hd]; rfl
theorem readD_long {l : List UInt8} {b : Nat} (h : okd b l = true) (hl : l.length > 16384) : readD l b = (0, 4) := by unfold readD; rw [h, if_pos rfl, if_pos hl]
theorem readD_fit {l : List UInt8} {b : Nat} (h : okd b l = true) (hl : ¬ l.length > 16384) : readD l b = fitA (rdv b 0 l) := by unfold readD; rw [h, if_pos rfl, if_neg hl]
theorem readD_large {l : List UInt8} {b k : Nat} (hb : 1 ≤ b) (h : okd b l = true) (hl : ¬ l.length > 16384) (hk : 512 < (digs (rdv b 0 (l.take k))).length) : readD l b = (0, 4) := by
  rw [readD_fit h hl]
  unfold fitA
  rw [if_neg]
  have h1 := digs_len_lt.1 hk
  have h2 := rdv_le hb l k
  have h3 := digs_len_lt.2 (Nat.le_trans h1 h2)
  omega

set_option maxRecDepth 100000 in
set_option maxHeartbeats 4000000 in
theorem read_core (s : ByteArray) (r : Nat) (w : World) (hs : s.size ≤ 140737488351232) (hr1 : 2 ≤ r) (hr2 : r ≤ 36) (h3 : s.size ≠ 0) :
    Calls Try.prog 73 #[.string s, .int .i64 (r : Int)] w (RetE w (readD s.data.toList r)) := by
  have t1 := ne_empty h3
  have hsl := s_len s
  have HSL := Lib.hid hsl
  clear hsl
  go_enter Try.func73, Try.ntmps73
  go_wp2_with fail
  go_loop [22] (fun iv => ∃ k : Nat, k ≤ s.size ∧ iv = .int .i64 (k : Int) ∧ Hid (okd r (s.data.toList.take k) = true)) (fun iv => (s.size - intOf iv).toNat)
  case atStart => exact ⟨0, Nat.zero_le _, rfl, rfl⟩
  case round =>
    obtain ⟨k, hk, rfl, hok⟩ := hrel
    by_cases h0 : k < s.size
    · have e1 := s_at h0
      have hv := value_any (byt s.data.toList k) w (byt_lt _ _)
      have hdl := dval_le (byt s.data.toList k)
      by_cases hd : dval (byt s.data.toList k) < r
      · have t2 : decide (r ≤ dval (byt s.data.toList k)) = false := by simp; omega
        have hst : Hid (okd r (s.data.toList.take (k + 1)) = true) := by
          show _ = _
          rw [okd_take (by rw [HSL.out]; exact h0), hok.out, decide_eq_true hd]; rfl
        go_wp2_with (go_at_call 72; refine hv.mono ?_; rintro e w' ⟨rfl, rfl⟩)
        go_round
        case rel => exact ⟨k + 1, by omega, by go_num, hst⟩
        case measure => simp [intOf]; omega
      · have t2 : decide (r ≤ dval (byt s.data.toList k)) = true := by simp; omega
        have hR := Lib.hid (readD_bad (l := s.data.toList) (k := k) (by rw [HSL.out]; exact h0) hd)
        go_wp2_with (go_at_call 72; refine hv.mono ?_; rintro e w' ⟨rfl, rfl⟩)
        go_ret2
        rw [hR.out]
        exact ret_nil 5 (Below.refl _ _)
    · obtain rfl : k = s.size := by omega
      have hok2 : okd r s.data.toList = true := by have := hok.out; rw [← HSL.out, List.take_length] at this; exact this
      have HOK := Lib.hid hok2
      by_cases hlong : s.size > 16384
      · have hR := Lib.hid (readD_long hok2 (by rw [HSL.out]; exact hlong))
        clear hok2
        go_wp2_with fail
        go_ret2
        rw [hR.out]
        exact ret_nil 4 (Below.refl _ _)
      · have hlong2 : s.size ≤ 16384 := by omega
        clear hok2 hok hlong
        go_wp2_with fail
        go_loopw [7, 37] (fun ov iv wr => ∃ (k : Nat) (A1 : Option Addr) (c1 : Nat), k ≤ s.size ∧ iv = .int .i64 (k : Int) ∧ ov = .slice A1 (digs (rdv r 0 (s.data.toList.take k))).length c1 ∧ OW wr w.heap.size A1 c1 (digs (rdv r 0 (s.data.toList.take k))) ∧ (digs (rdv r 0 (s.data.toList.take k))).length ≤ 512 ∧ Below w.heap.size w wr) (fun _ iv _ => (s.size - intOf iv).toNat)
        case atStart => exact ⟨0, none, 0, Nat.zero_le _, rfl, by rw [show rdv r 0 (s.data.toList.take 0) = 0 from rfl, digs_zero]; rfl, by rw [show rdv r 0 (s.data.toList.take 0) = 0 from rfl, digs_zero]; exact OW.nil _ _, by rw [show rdv r 0 (s.data.toList.take 0) = 0 from rfl, digs_zero]; simp, Below.refl _ _⟩
        case round =>
          obtain ⟨k, A1, c1, hk, rfl, rfl, hO, hol, hbel⟩ := hrel
          obtain ⟨wo, rfl⟩ : ∃ wo : World, wo = wr := ⟨_, rfl⟩
          by_cases h0 : k < s.size
          · have e1 := s_at h0
            have hv := fun w => value_any (byt s.data.toList k) w (byt_lt _ _)
            have hdl := dval_le (byt s.data.toList k)
            have hst := Lib.hid (rdv_take (b := r) (l := s.data.toList) (k := k) (by rw [HSL.out]; exact h0))
            have hlg := Lib.hid (fun h => readD_large (k := k + 1) (by omega : 1 ≤ r) HOK.out (by rw [HSL.out]; omega) h)
            rw [hst.out] at hlg
            have hlb := hO.big
            generalize hN : rdv r 0 (s.data.toList.take k) = N at *
            have HN := Lib.hid hN
            clear hN
            go_wp2_with (go_at_call 72; refine (hv _).mono ?_; rintro e w' ⟨rfl, rfl⟩)
            go_loopw [9, 47] (fun cv jv wr => ∃ (j q : Nat) (o : List Nat), j ≤ (digs N).length ∧ jv = .int .i64 (j : Int) ∧ q ≤ 99 ∧ cv = .int .u64 (q : Int) ∧ OW wr w.heap.size A1 c1 o ∧ Hid (Mul1 (digs N) o j r (dval (byt s.data.toList k)) q) ∧ Below w.heap.size w wr) (fun _ jv _ => ((digs N).length - intOf jv).toNat)
            case atStart => exact ⟨0, dval (byt s.data.toList k), _, Nat.zero_le _, rfl, hdl, rfl, hO, ⟨rfl, fun t _ => rfl, by simp [val, Wp_zero]⟩, hbel⟩
            case round =>
              obtain ⟨j, q, o, hj, rfl, hq, rfl, hO, hM, hbel⟩ := hrel
              obtain ⟨wi, rfl⟩ : ∃ wi : World, wi = wr := ⟨_, rfl⟩
              by_cases hjl : j < (digs N).length
              · have hok : j < o.length := by have := hM.out.1; omega
                rcases hO.form with ⟨_, _, he⟩ | ⟨g, rfl, hg1, hg2, _⟩
                · rw [he] at hok; simp at hok
                · have hoc := hO.cell hok
                  have hfz := hO.frozen j
                  have hwx := wd_lt hO.b32 j
                  obtain ⟨hm0, hm1⟩ := mcI hq hwx hr2
                  have e2 := mcf_int q (wd o j) r
                  have e3 := mcc_int q (wd o j) r
                  have hcl := mcc_lt hq hwx hr2
                  have hset := hO.set j (mcf_lt q (wd o j) r)
                  have hst2 := Lib.hid (Mul1_step hok hM.out)
                  have hbel2 := hbel.setCell (p := ⟨g, j, none⟩) hg1 (.int .u32 (mcf q (wd o j) r : Nat))
                  go_wp2
                  go_roundw
                  case rel => exact ⟨j + 1, _, _, by omega, by go_num, hcl, rfl, hset, hst2, hbel2⟩
                  case measure => simp [intOf]; omega
              · obtain rfl : j = (digs N).length := by omega
                obtain ⟨f1, f2⟩ := Mul1_end (by omega) (by omega) hO.b32 hM.out
                have hol2 : o.length = (digs N).length := hM.out.1
                have HOL := Lib.hid hol2
                have F1 := Lib.hid f1
                have F2 := Lib.hid f2
                clear f1 f2 hol2
                by_cases hq0 : q = 0
                · have HE := Lib.hid (F1.out hq0)
                  subst hq0
                  go_wp2_with fail
                  go_roundw
                  case rel => exact ⟨k + 1, A1, c1, by omega, by go_num, by rw [hst.out, ← HE.out, HOL.out], by rw [hst.out, ← HE.out]; exact hO, by rw [hst.out, ← HE.out, HOL.out]; exact hol, hbel⟩
                  case measure => simp [intOf]; omega
                · have hq1 : 0 < q := by omega
                  have HE := Lib.hid (F2.out hq0)
                  have hone := RW.one wi 52 (show q < 4294967296 by omega)
                  have hb2 : Below w.heap.size w (wi.alloc (.cells #[.int .u32 (q : Int)] 52)) := hbel.alloc hbel.size _
                  have hlen : (o ++ [q]).length = (digs N).length + 1 := by rw [List.length_append, HOL.out]; rfl
                  have HLEN := Lib.hid hlen
                  have hOb := hO.1.1
                  clear hlen hOb hq0
                  have hO' : OL 52 fw (wi.alloc (.cells #[.int .u32 (q : Int)] 52)) w.heap.size A1 c1 o := hO.1.alloc _
                  have hOl : (digs N).length = o.length := HOL.out.symm
                  have HOL2 := Lib.hid hOl
                  clear hOl
                  by_cases hbig : 512 < (digs N).length + 1
                  · have hR := Lib.hid (hlg.out (by rw [← HE.out, HLEN.out]; exact hbig))
                    go_wp2_with (at_builtin; refine wp_appW _ rfl _ _ rfl w.heap.size _ _ _ o rfl HOL2.out ⟨hO', hO.b32⟩ _ _ _ [q] rfl rfl _ hone (by rw [HOL.out]; simp; omega) hb2.size ?_; intro A2 c2 w2 g1 g2 g3; rw [HLEN.out])
                    go_ret2
                    rw [hR.out]
                    exact ret_nil 4 (hb2.trans g3)
                  · go_wp2_with (at_builtin; refine wp_appW _ rfl _ _ rfl w.heap.size _ _ _ o rfl HOL2.out ⟨hO', hO.b32⟩ _ _ _ [q] rfl rfl _ hone (by rw [HOL.out]; simp; omega) hb2.size ?_; intro A2 c2 w2 g1 g2 g3; rw [HLEN.out])
                    go_roundw
                    case rel => exact ⟨k + 1, A2, c2, by omega, by go_num, by rw [hst.out, ← HE.out, HLEN.out], by rw [hst.out, ← HE.out]; exact g1, by rw [hst.out, ← HE.out, HLEN.out]; omega, hb2.trans g3⟩
                    case measure => simp [intOf]; omega
          · obtain rfl : k = s.size := by omega
            have hfull : s.data.toList.take s.size = s.data.toList := by rw [← HSL.out, List.take_length]
            rw [hfull] at hO hol
            have hR : Hid (readD s.data.toList r = (rdv r 0 s.data.toList, 0)) := by
              show _ = _
              rw [readD_fit HOK.out (by rw [HSL.out]; omega)]
              unfold fitA; rw [if_pos hol]
            have HF := Lib.hid hfull
            clear hfull
            go_wp2_with fail
            go_ret2
            rw [hR.out, HF.out]
            exact ⟨A1, c1, rfl, hO, hbel⟩

set_option maxRecDepth 100000 in
set_option maxHeartbeats 4000000 in
theorem read_any (s : ByteArray) (b : Int) (w : World) (hs : s.size ≤ 140737488351232) :
    Calls Try.prog 73 #[.string s, .int .i64 b] w (RetE w (readA s.data.toList b)) := by
  unfold readA
  by_cases h1 : b < 2
  · rw [if_pos (Or.inl h1)]
    go_enter Try.func73, Try.ntmps73
    go_wp2_with fail
    go_ret2
    exact ret_nil 1 (Below.refl _ _)
  · by_cases h2 : b > 36
    · rw [if_pos (Or.inr h2)]
      go_enter Try.func73, Try.ntmps73
      go_wp2_with fail
      go_ret2
      exact ret_nil 1 (Below.refl _ _)
    · rw [if_neg (by omega)]
      obtain ⟨r, rfl⟩ := Int.eq_ofNat_of_zero_le (show 0 ≤ b by omega)
      rw [Int.toNat_natCast]
      have hr1 : 2 ≤ r := by omega
      have hr2 : r ≤ 36 := by omega
      by_cases h3 : s.size = 0
      · have hl : s.data.toList = [] := List.eq_nil_of_length_eq_zero (by rw [s_len]; exact h3)
        rw [if_pos hl]
        have hse : s = ⟨#[]⟩ := by
          cases s with
          | mk d => congr 1; exact Array.eq_empty_of_size_eq_zero h3
        subst hse
        go_enter Try.func73, Try.ntmps73
        go_wp2_with fail
        go_ret2
        exact ret_nil 5 (Below.refl _ _)
      · have hl : s.data.toList ≠ [] := fun h => h3 (by rw [← s_len, h]; rfl)
        rw [if_neg hl]
        exact read_core s r w hs hr1 hr2 h3
end Go.Proofs.Ytkjfpaommbjgbaa
namespace Go.Proofs.Ytkjfpaommbjgbaa
open Go.RowKit

set_option maxRecDepth 100000 in
set_option maxHeartbeats 4000000 in
theorem rread_core (s : ByteArray) (r : Nat) (w : World) (hs : s.size ≤ 140737488351232) (hr1 : 2 ≤ r) (hr2 : r ≤ 36) (h3 : s.size ≠ 0) :
    Calls Try.prog 57 #[.string s, .int .i64 (r : Int)] w (RetE w (readD s.data.toList r)) := by
  have t1 := ne_empty h3
  have hsl := s_len s
  have HSL := Lib.hid hsl
  clear hsl
  go_enter Try.func57, Try.ntmps57
  go_wp2_with fail
  go_loop [6] (fun iv => ∃ k : Nat, k ≤ s.size ∧ iv = .int .i64 (k : Int) ∧ Hid (okd r (s.data.toList.take k) = true)) (fun iv => (s.size - intOf iv).toNat)
  case atStart => exact ⟨0, Nat.zero_le _, rfl, rfl⟩
  case round =>
    obtain ⟨k, hk, rfl, hok⟩ := hrel
    by_cases h0 : k < s.size
    · have e1 := s_at h0
      have hv := rvalue_any (byt s.data.toList k) w (byt_lt _ _)
      have hdl := dval_le (byt s.data.toList k)
      by_cases hd : dval (byt s.data.toList k) < r
      · have t2 : decide (r ≤ dval (byt s.data.toList k)) = false := by simp; omega
        have hst : Hid (okd r (s.data.toList.take (k + 1)) = true) := by
          show _ = _
          rw [okd_take (by rw [HSL.out]; exact h0), hok.out, decide_eq_true hd]; rfl
        go_wp2_with (go_at_call 56; refine hv.mono ?_; rintro e w' ⟨rfl, rfl⟩)
        go_round
        case rel => exact ⟨k + 1, by omega, by go_num, hst⟩
        case measure => simp [intOf]; omega
      · have t2 : decide (r ≤ dval (byt s.data.toList k)) = true := by simp; omega
        have hR := Lib.hid (readD_bad (l := s.data.toList) (k := k) (by rw [HSL.out]; exact h0) hd)
        go_wp2_with (go_at_call 56; refine hv.mono ?_; rintro e w' ⟨rfl, rfl⟩)
        go_ret2
        rw [hR.out]
        exact ret_nil 5 (Below.refl _ _)
    · obtain rfl : k = s.size := by omega
      have hok2 : okd r s.data.toList = true := by have := hok.out; rw [← HSL.out, List.take_length] at this; exact this
      have HOK := Lib.hid hok2
      by_cases hlong : s.size > 16384
      · have hR := Lib.hid (readD_long hok2 (by rw [HSL.out]; exact hlong))
        clear hok2
        go_wp2_with fail
        go_ret2
        rw [hR.out]
        exact ret_nil 4 (Below.refl _ _)
      · have hlong2 : s.size ≤ 16384 := by omega
        clear hok2 hok hlong
        go_wp2_with fail
        go_loopw [7, 8] (fun ov iv wr => ∃ (k : Nat) (A1 : Option Addr) (c1 : Nat), k ≤ s.size ∧ iv = .int .i64 (k : Int) ∧ ov = .slice A1 (digs (rdv r 0 (s.data.toList.take k))).length c1 ∧ OW wr w.heap.size A1 c1 (digs (rdv r 0 (s.data.toList.take k))) ∧ (digs (rdv r 0 (s.data.toList.take k))).length ≤ 512 ∧ Below w.heap.size w wr) (fun _ iv _ => (s.size - intOf iv).toNat)
        case atStart => exact ⟨0, _, 0, Nat.zero_le _, rfl, by rw [show rdv r 0 (s.data.toList.take 0) = 0 from rfl, digs_zero]; rfl, by rw [show rdv r 0 (s.data.toList.take 0) = 0 from rfl, digs_zero]; exact OW.empty w, by rw [show rdv r 0 (s.data.toList.take 0) = 0 from rfl, digs_zero]; simp, (Below.refl _ _).alloc (Nat.le_refl _) _⟩
        case round =>
          obtain ⟨k, A1, c1, hk, rfl, rfl, hO, hol, hbel⟩ := hrel
          obtain ⟨wo, rfl⟩ : ∃ wo : World, wo = wr := ⟨_, rfl⟩
          by_cases h0 : k < s.size
          · have e1 := s_at h0
            have hv := fun w => rvalue_any (byt s.data.toList k) w (byt_lt _ _)
            have hdl := dval_le (byt s.data.toList k)
            have hst := Lib.hid (rdv_take (b := r) (l := s.data.toList) (k := k) (by rw [HSL.out]; exact h0))
            have hlg := Lib.hid (fun h => readD_large (k := k + 1) (by omega : 1 ≤ r) HOK.out (by rw [HSL.out]; omega) h)
            rw [hst.out] at hlg
            have hlb := hO.big
            generalize hN : rdv r 0 (s.data.toList.take k) = N at *
            have HN := Lib.hid hN
            clear hN
            have hof : ∀ w, Calls Try.prog 76 #[.int .u64 ((dval (byt s.data.toList k) : Nat) : Int)] w (RetW w (dval (byt s.data.toList k))) := fun w => rof_any (dval (byt s.data.toList k) : Int) w (by omega) (by omega)
            have hNr : (digs (N * r)).length ≤ 513 := by
              have h1 := digs_len_le.1 hol
              exact digs_len_le.2 (by rw [Wp_succ, Nat.mul_comm 4294967296]; exact Nat.lt_of_lt_of_le (Nat.mul_lt_mul_of_pos_right h1 (by omega)) (Nat.mul_le_mul_left _ (by omega)))
            have hDl : (digs (dval (byt s.data.toList k))).length ≤ 1 := digs_len_le.2 (by rw [Wp_succ, Wp_zero]; omega)
            have ew : IntKind.u32.wrap (r : Int) = (r : Int) := IntWalk.u32_in _ (by omega)
            have ew2 : IntKind.u64.wrap ((dval (byt s.data.toList k) : Nat) : Int) = (dval (byt s.data.toList k) : Nat) := IntWalk.u64_in _ (by omega)
            have hb2 : Below wo.heap.size wo (wo.alloc (.cells #[.int .u32 (r : Int)] 52)) := (Below.refl _ _).alloc (Nat.le_refl _) _
            have hx : RW (wo.alloc (.cells #[.int .u32 (r : Int)] 52)).drew (wo.alloc (.cells #[.int .u32 (r : Int)] 52)).drew.heap.size A1 c1 (digs N) := hO.rw.step hb2.drew (Nat.le_trans (Nat.le_succ _) (by simp [World.drew]))
            have hy : RW (wo.alloc (.cells #[.int .u32 (r : Int)] 52)).drew (wo.alloc (.cells #[.int .u32 (r : Int)] 52)).drew.heap.size (some ⟨wo.heap.size, 0, none⟩) 1 [r] := (RW.one wo 52 (show r < 4294967296 by omega)).more (by simp [World.drew])
            have htm := rtimes_any A1 (some ⟨wo.heap.size, 0, none⟩) c1 1 _ 1 (digs N) [r] _ rfl rfl hx hy (by omega) (by simp)
            rw [val_digs, val_one] at htm
            go_wp2_with fail
            go_region_held3 (fun _ => True) (first | exact trivial)
              ((first
                | (go_at_call 75; refine htm.mono ?_; rintro e w4 ⟨A4, c4, rfl, hO4, hb4⟩)
                | (go_at_call 56; refine (hv _).mono ?_; rintro e w' ⟨rfl, rfl⟩)
                | (go_at_call 76; refine (hof _).mono ?_; rintro e w5 ⟨A5, c5, rfl, hO5, hb5⟩)
                | (go_at_call 74; refine (rplus_any A4 A5 c4 c5 _ _ (digs (N * r)) (digs (dval (byt s.data.toList k))) w5 rfl rfl (hO4.rw.step hb5 hb5.size) hO5.rw (by omega) (by omega)).mono ?_; rw [val_digs, val_digs]; rintro e w6 ⟨A6, c6, rfl, hO6, hb6⟩)))
            all_goals
              have B4 : Below wo.heap.size wo w4 := hb2.drew.trans (hb4.mono hb2.drew.size)
              have B5 := B4.trans (hb5.mono B4.size)
              have B6 := hbel.trans ((B5.trans (hb6.mono B5.size)).mono hbel.size)
              have O6 := hO6.base_le (Nat.le_trans hbel.size B5.size)
              by_cases hbig : 512 < (digs (N * r + dval (byt s.data.toList k))).length
              · have hR := Lib.hid (hlg.out hbig)
                go_wp2_with fail
                go_ret2
                rw [hR.out]
                exact ret_nil 4 B6
              · go_wp2_with fail
                go_roundw
                case rel => exact ⟨k + 1, A6, c6, by omega, by go_num, by rw [hst.out], by rw [hst.out]; exact O6, by rw [hst.out]; omega, B6⟩
                case measure => simp [intOf]; omega
          · obtain rfl : k = s.size := by omega
            have hfull : s.data.toList.take s.size = s.data.toList := by rw [← HSL.out, List.take_length]
            rw [hfull] at hO hol
            have hR : Hid (readD s.data.toList r = (rdv r 0 s.data.toList, 0)) := by
              show _ = _
              rw [readD_fit HOK.out (by rw [HSL.out]; omega)]
              unfold fitA; rw [if_pos hol]
            have HF := Lib.hid hfull
            clear hfull
            go_wp2_with fail
            go_ret2
            rw [hR.out, HF.out]
            exact ⟨A1, c1, rfl, hO, hbel⟩

set_option maxRecDepth 100000 in
set_option maxHeartbeats 4000000 in
theorem rread_any (s : ByteArray) (b : Int) (w : World) (hs : s.size ≤ 140737488351232) :
    Calls Try.prog 57 #[.string s, .int .i64 b] w (RetE w (readA s.data.toList b)) := by
  unfold readA
  by_cases h1 : b < 2
  · rw [if_pos (Or.inl h1)]
    go_enter Try.func57, Try.ntmps57
    go_wp2_with fail
    go_ret2
    exact ret_nil 1 (Below.refl _ _)
  · by_cases h2 : b > 36
    · rw [if_pos (Or.inr h2)]
      go_enter Try.func57, Try.ntmps57
      go_wp2_with fail
      go_ret2
      exact ret_nil 1 (Below.refl _ _)
    · rw [if_neg (by omega)]
      obtain ⟨r, rfl⟩ := Int.eq_ofNat_of_zero_le (show 0 ≤ b by omega)
      rw [Int.toNat_natCast]
      have hr1 : 2 ≤ r := by omega
      have hr2 : r ≤ 36 := by omega
      by_cases h3 : s.size = 0
      · have hl : s.data.toList = [] := List.eq_nil_of_length_eq_zero (by rw [s_len]; exact h3)
        rw [if_pos hl]
        have hse : s = ⟨#[]⟩ := by
          cases s with
          | mk d => congr 1; exact Array.eq_empty_of_size_eq_zero h3
        subst hse
        go_enter Try.func57, Try.ntmps57
        go_wp2_with fail
        go_ret2
        exact ret_nil 5 (Below.refl _ _)
      · have hl : s.data.toList ≠ [] := fun h => h3 (by rw [← s_len, h]; rfl)
        rw [if_neg hl]
        exact rread_core s r w hs hr1 hr2 h3
end Go.Proofs.Ytkjfpaommbjgbaa
