/- Merged texts: NatL, NatM, NatN, NatO, NatQ. -/
import Derived.Test.YtabcnpcfknlmlaaGB
import Derived.Test.YtabcnpcfknlmlaaGA
import Derived.WalkSpells
namespace Go.Proofs.Ytabcnpcfknlmlaa
open Go.RowKit


set_option maxHeartbeats 2000000 in
theorem up_any (A : Option Addr) (c n : Nat) (a : List Nat) (w : World) (k : Nat) (hk : k ≤ 1000000) (hn : n = a.length) (ha : RW w w.heap.size A c a) (hla : a.length ≤ 17592186044416) :
    Calls Try.prog 29 #[.slice A n c, .int .i64 (k : Int)] w (RetW w (val a * 2 ^ k)) := by
  subst hn
  have ba := ha.b32
  by_cases hl0 : a.length = 0
  · have hl0' : ((a.length : Int) == 0) = true := by simp [hl0]
    have ha0 : a = [] := List.eq_nil_of_length_eq_zero hl0
    have hv : Hid (val a * 2 ^ k = 0) := by show _ = _; subst ha0; simp [val]
    clear hl0 ha0
    go_enter Try.func29, Try.ntmps29
    go_wp2
    go_ret
    rw [hv.out]
    exact ⟨none, 0, by rw [digs_zero]; rfl, by rw [digs_zero]; exact OW.nil _ _, Below.refl _ _⟩
  · have hl0' : ((a.length : Int) == 0) = false := beq_eq_false_iff_ne.2 (by omega)
    go_enter Try.func29, Try.ntmps29
    go_wp2_with (at_make; refine wp_makeW _ rfl _ _ rfl .i64 .i64 _ _ (a.length + k / 32 + 1) rfl rfl (by omega) (by omega) (by omega) ?_; intro w1 hO1 hb1 hs1)
    go_loopw [21] (fun iv wr => ∃ (i : Nat) (o : List Nat), i ≤ a.length ∧ iv = .int .i64 (i : Int) ∧ OW wr w.heap.size (some ⟨w.heap.size, 0, none⟩) (a.length + k / 32 + 1) o ∧ Hid (o.length = a.length + k / 32 + 1) ∧
        Hid (val o = val (a.take i) * 2 ^ k) ∧ Hid (wd o (i + k / 32) < 2 ^ (k % 32)) ∧ Hid (∀ t, i + k / 32 + 1 ≤ t → wd o t = 0) ∧ Below w.heap.size w wr) (fun iv _ => (a.length - intOf iv).toNat)
    case atStart => exact ⟨0, _, Nat.zero_le _, rfl, hO1, by show _ = _; simp, by show _ = _; simp [val, val_replicate], by show _ < _; rw [wd_replicate]; exact Nat.pow_pos (by omega), fun t _ => wd_replicate _ t, hb1⟩
    case round =>
      obtain ⟨i, o, hi, rfl, hO, hol, hinv, hlow, hz, hbel⟩ := hrel
      have ha1 := ha.below hbel
      have hwx := wd_lt ba i
      by_cases h0 : i < a.length
      · obtain ⟨b1, o1, rfl, hlt1, hx⟩ := ha1.at_ (by omega)
        have hxk := hx i h0
        have hok : i + k / 32 < o.length := by have := hol.out; omega
        have hoc := hO.cell hok
        have hfz := hO.frozen (i + k / 32)
        have hok2 : i + k / 32 + 1 < o.length := by have := hol.out; omega
        have hoc2 := hO.cell hok2
        have hfz2 := hO.frozen (i + k / 32 + 1)
        have hs32 : k % 32 < 32 := Nat.mod_lt _ (by omega)
        obtain ⟨hm0, hm1⟩ := shI hwx hs32
        have e1 := shlo_int (wd a i) (k % 32)
        have e2 := shhi_int (wd a i) (k % 32)
        obtain ⟨ho1, ho2⟩ := or_shlo (x := wd a i) hs32 hlow.out
        have e3 : bits .or .u32 (wd o (i + k / 32) : Int) (shlo (wd a i) (k % 32) : Int) = ((wd o (i + k / 32) + shlo (wd a i) (k % 32) : Nat) : Int) := by
          rw [u32_or_nat _ _ (by omega) (shlo_lt _ _), ho1]
        have hset := (hO.set (i + k / 32) ho2).set (i + k / 32 + 1) (Nat.lt_of_lt_of_le (shhi_lt (s := k % 32) hwx) (Nat.le_trans (pow_le32 hs32) (by omega)))
        clear hx ha ha1 ho1
        have hst := Lib.hid (up_step (a := a) hok2 (hz.out _ (Nat.le_refl _)) hinv.out)
        have hlow2 : Hid (wd ((o.set (i + k / 32) (wd o (i + k / 32) + shlo (wd a i) (k % 32))).set (i + k / 32 + 1) (shhi (wd a i) (k % 32))) (i + 1 + k / 32) < 2 ^ (k % 32)) := by
          show _ < _
          rw [show i + 1 + k / 32 = i + k / 32 + 1 by omega, wd_set_eq (by rw [List.length_set]; exact hok2)]
          exact shhi_lt hwx
        have hz2 : Hid (∀ t, i + 1 + k / 32 + 1 ≤ t → wd ((o.set (i + k / 32) (wd o (i + k / 32) + shlo (wd a i) (k % 32))).set (i + k / 32 + 1) (shhi (wd a i) (k % 32))) t = 0) := fun t ht => by
          rw [wd_set_ne (by omega), wd_set_ne (by omega)]; exact hz.out t (by omega)
        have hbel2 := (hbel.setCell (p := ⟨w.heap.size, i + k / 32, none⟩) (Nat.le_refl _) (.int .u32 ((wd o (i + k / 32) + shlo (wd a i) (k % 32) : Nat) : Int))).setCell (p := ⟨w.heap.size, i + k / 32 + 1, none⟩) (Nat.le_refl _) (.int .u32 (shhi (wd a i) (k % 32) : Nat))
        simp only [Int.natCast_add] at hset hbel2
        go_wp2
        go_roundw
        case rel => exact ⟨i + 1, _, by omega, by go_num, hset, by show _ = _; rw [List.length_set, List.length_set]; exact hol.out, hst, hlow2, hz2, hbel2⟩
        case measure => simp [intOf]; omega
      · obtain rfl : i = a.length := by omega
        have hfin : Hid (val o = val a * 2 ^ k) := by have := hinv.out; rw [List.take_length] at this; exact this
        have hO2 := hO.rw
        go_wp2_with (go_at_call 57; refine (norm_any _ _ _ o _ hol.out.symm hO2).mono ?_; rintro e w' ⟨rfl, rfl⟩)
        go_ret
        have hn := hO.norm
        rw [hfin.out] at hn ⊢
        exact ⟨_, _, rfl, hn, hbel⟩
end Go.Proofs.Ytabcnpcfknlmlaa
namespace Go.Proofs.Ytabcnpcfknlmlaa
open Go.RowKit

theorem rup_end {a o : List Nat} {k c : Nat} (hc : c = 0) (h : val o + c * Wp (k / 32 + (a.length + 1)) = val (a.take (a.length + 1)) * 2 ^ k) : val o = val a * 2 ^ k := by
  subst hc; rw [val_take_all (by omega)] at h; omega

set_option maxHeartbeats 2000000 in
theorem rup_any (A : Option Addr) (c n : Nat) (a : List Nat) (w : World) (k : Nat) (hk : k ≤ 1000000) (hn : n = a.length) (ha : RW w w.heap.size A c a) (hla : a.length ≤ 17592186044416) :
    Calls Try.prog 36 #[.slice A n c, .int .i64 (k : Int)] w (RetW w (val a * 2 ^ k)) := by
  subst hn
  have ba := ha.b32
  have hs32 : k % 32 < 32 := Nat.mod_lt _ (by omega)
  go_enter Try.func36, Try.ntmps36
  go_wp2_with (at_make; refine wp_makeW _ rfl _ _ rfl .i64 .i64 _ _ (k / 32) rfl rfl (by omega) (by omega) (by omega) ?_; intro w1 hO1 hb1 hs1)
  go_loopw [5, 6, 7] (fun sv cv iv wr => ∃ (i q : Nat) (A' : Option Addr) (c' : Nat) (o : List Nat), i ≤ a.length + 1 ∧ iv = .int .i64 (i : Int) ∧ q < 4294967296 ∧ cv = .int .u64 (q : Int) ∧ sv = .slice A' o.length c' ∧ OW wr w.heap.size A' c' o ∧ Hid (o.length = k / 32 + i) ∧
      Hid (val o + q * Wp (k / 32 + i) = val (a.take i) * 2 ^ k) ∧ Hid (q < 2 ^ (k % 32)) ∧ Hid (i = a.length + 1 → q = 0) ∧ Below w.heap.size w wr) (fun _ _ iv _ => (a.length + 1 - intOf iv).toNat)
  case atStart => exact ⟨0, 0, _, _, _, Nat.zero_le _, rfl, by omega, rfl, by rw [List.length_replicate], hO1, by show _ = _; simp, by show _ = _; simp [val, val_replicate], Nat.pow_pos (by omega), fun _ => rfl, hb1⟩
  case round =>
    obtain ⟨i, q, A', c', o, hi, rfl, hq, rfl, rfl, hO, hol, hinv, hlow, hlast, hbel⟩ := hrel
    have hwx := wd_lt ba i
    have ha1 := (ha.below hbel).more hbel.size
    by_cases h0 : i ≤ a.length
    · obtain ⟨hm0, hm1⟩ := shI hwx hs32
      have e3 : bits .or .u64 (q : Int) ((wd a i : Int) * 2 ^ (k % 32)) = (upv q (wd a i) (k % 32) : Int) := by
        have h1 := hm1
        rw [mulpow_cast] at h1 ⊢
        rw [u64_or_nat _ _ (by omega) (by omega), upv_or hlow.out]
      have e1 := upv_lo (x := wd a i) hs32 hlow.out
      have e2 := upv_hi (x := wd a i) hs32 hlow.out
      have hul := uplo_lt (x := wd a i) hs32 hlow.out
      have hst := Lib.hid (rup_step hol.out hinv.out)
      have hone := RW.one wr 53 hul
      have hb2 : Below w.heap.size w (wr.alloc (.cells #[.int .u32 (uplo q (wd a i) (k % 32) : Int)] 53)) := hbel.alloc hbel.size _
      have hol2 : o.length ≤ 17592186044416 + 1000000 := by have := hol.out; omega
      have hK : Hid ((o ++ [uplo q (wd a i) (k % 32)]).length = k / 32 + (i + 1)) := by show _ = _; rw [List.length_append, hol.out]; simp only [List.length_cons, List.length_nil]; omega
      have hlow2 : Hid (shhi (wd a i) (k % 32) < 2 ^ (k % 32)) := shhi_lt hwx
      have hsh32 : shhi (wd a i) (k % 32) < 4294967296 := Nat.lt_of_lt_of_le hlow2.out (Nat.le_trans (pow_le32 hs32) (by omega))
      have hlast2 : Hid (i + 1 = a.length + 1 → shhi (wd a i) (k % 32) = 0) := fun h1 => by rw [wd_out (by omega)]; exact shhi_zero _
      have hst2 : Hid (val (o ++ [uplo q (wd a i) (k % 32)]) + shhi (wd a i) (k % 32) * Wp (k / 32 + (i + 1)) = val (a.take (i + 1)) * 2 ^ k) := hst
      clear hst
      go_wp2_with fail
      refine (word_k _ _ _ a _ _ i rfl rfl ha1).mono ?_; rintro e w' ⟨rfl, rfl⟩
      go_wp2_with (at_builtin; refine wp_appW _ rfl _ _ rfl w.heap.size _ _ _ o rfl rfl (hO.alloc _) _ _ _ [uplo q (wd a i) (k % 32)] rfl rfl _ hone (by simp; omega) hb2.size ?_; intro A2 c2 w2 g1 g2 g3)
      go_roundw
      case rel => exact ⟨i + 1, _, A2, c2, _, by omega, by go_num, hsh32, rfl, by rw [List.length_append]; rfl, g1, hK, hst2, hlow2, hlast2, hb2.trans g3⟩
      case measure => simp [intOf]; omega
    · obtain rfl : i = a.length + 1 := by omega
      have hfin := Lib.hid (rup_end (hlast.out rfl) hinv.out)
      have hO2 := hO.rw
      have hol2 : o.length ≤ 17592186044416 + 1000001 := by have := hol.out; omega
      go_wp2_with (go_at_call 59; refine (rnorm_any _ _ _ o _ rfl hO2).mono ?_; rintro e w3 ⟨A3, c3, rfl, g4, g5⟩)
      go_ret
      rw [hfin.out] at g4 ⊢
      exact ⟨A3, c3, rfl, g4.base_le hbel.size, hbel.trans (g5.mono hbel.size)⟩

/-- slices.Clone -/
theorem clone_any (A : Option Addr) (c n : Nat) (l : List Nat) (w : World) (hn : n = l.length) (h : RW w w.heap.size A c l) :
    Calls Try.prog 83 #[.slice A n c] w fun e w' => ∃ A' c', e = .returned (.slice A' l.length c') ∧ OW w' w.heap.size A' c' l ∧ Below w.heap.size w w' := by
  subst hn
  have hbig := h.big
  have q22 : ∀ (w : World) (a : Option Addr) (n c n' c' : Nat), (binOp .eql 23 (.slice a n c) (.slice none n' c')).run Try.prog w = .ok (.bool a.isNone) w := fun w a n c n' c' => Lib.run_eql_slice_nil w _ _ a n c n' c' Try.underlying23
  rcases A with _ | ad
  · have hl0 : l = [] := by
      rcases Nat.eq_zero_or_pos l.length with h0 | h0
      · exact List.eq_nil_of_length_eq_zero h0
      · obtain ⟨_, _, e, _⟩ := h.at_ h0; cases e
    subst hl0
    go_enter Try.func83, Try.ntmps83
    go_wp2
    go_ret
    exact ⟨none, 0, rfl, OW.nil _ _, Below.refl _ _⟩
  · have hb1 : Below w.heap.size w (w.alloc (.cells #[] 53)) := (Below.refl _ _).alloc (Nat.le_refl _) _
    have hr := h.below hb1
    clear h
    go_enter Try.func83, Try.ntmps83
    go_wp2_with (at_builtin; refine wp_appW _ rfl _ _ rfl w.heap.size _ _ _ [] rfl rfl (OW.empty w) _ _ _ l rfl rfl _ hr (by simp; omega) (by simp) ?_; intro A' c' w' h1 h2 h3)
    go_ret
    exact ⟨A', c', ret_slice (by simp), h1, hb1.trans h3⟩
end Go.Proofs.Ytabcnpcfknlmlaa
namespace Go.Proofs.Ytabcnpcfknlmlaa
open Go.RowKit

theorem RW_drop {w : World} {B : Nat} {b off c : Nat} {l : List Nat} (h : RW w B (some ⟨b, off, none⟩) c l) (q : Nat) (hq : q ≤ l.length) : RW w B (some ⟨b, off + q, none⟩) (c - q) (l.drop q) := by
  refine ⟨⟨by rw [List.length_drop]; have := h.lc; omega, by rw [List.length_drop]; have := h.big; omega, fun hn => ?_⟩, B32_drop h.2 q⟩
  rw [List.length_drop] at hn
  obtain ⟨b', off', e, hb, hc⟩ := h.1.at_ (by omega)
  simp only [Option.some.injEq, Addr.mk.injEq, and_true] at e
  obtain ⟨rfl, rfl⟩ := e
  refine ⟨b, off + q, rfl, hb, fun k x hk => ?_⟩
  rw [List.getElem?_drop] at hk
  rw [Nat.add_assoc]
  exact hc _ x hk

def Dn (a o : List Nat) (k i : Nat) : Prop :=
  (∀ j, j < i → wd o j = dnw (wd a (k / 32 + j)) (wd a (k / 32 + j + 1)) (k % 32)) ∧ ∀ j, i ≤ j → wd o j = wd a (k / 32 + j)
theorem Dn_step {a o : List Nat} {k i : Nat} (h : Dn a o k i) (hi : i < o.length) : Dn a (o.set i (dnw (wd a (k / 32 + i)) (wd a (k / 32 + i + 1)) (k % 32))) k (i + 1) := by
  constructor
  · intro j hj
    by_cases e : i = j
    · subst e; rw [wd_set_eq hi]
    · rw [wd_set_ne e]; exact h.1 j (by omega)
  · intro j hj
    rw [wd_set_ne (by omega)]; exact h.2 j (by omega)

set_option maxHeartbeats 2000000 in
theorem down_any (A : Option Addr) (c n : Nat) (a : List Nat) (w : World) (k : Nat) (hk : k ≤ 1000000) (hn : n = a.length) (ha : RW w w.heap.size A c a) :
    Calls Try.prog 90 #[.slice A n c, .int .i64 (k : Int)] w (RetW w (val a / 2 ^ k)) := by
  subst hn
  have ba := ha.b32
  have hbig := ha.big
  have hs32 : k % 32 < 32 := Nat.mod_lt _ (by omega)
  by_cases hq : a.length ≤ k / 32
  · have hv : Hid (val a / 2 ^ k = 0) := by
      have := dn_lt ba k
      rw [show a.length - k / 32 = 0 by omega, Wp_zero] at this
      exact Nat.lt_one_iff.1 this
    go_enter Try.func90, Try.ntmps90
    go_wp2
    go_ret
    rw [hv.out]
    exact ⟨none, 0, by rw [digs_zero]; rfl, by rw [digs_zero]; exact OW.nil _ _, Below.refl _ _⟩
  · obtain ⟨b, off, rfl, hb, _⟩ := ha.at_ (by omega)
    have hlc := ha.lc
    have hck : ¬ c = k / 32 := by omega
    have hcl := clone_any (some ⟨b, off + k / 32, none⟩) (c - k / 32) (a.length - k / 32) (a.drop (k / 32)) w (by rw [List.length_drop]) (RW_drop ha _ (by omega))
    rw [List.length_drop] at hcl
    clear ha
    go_enter Try.func90, Try.ntmps90
    go_wp2_with fail
    refine hcl.mono ?_; rintro e w1 ⟨A1, c1, rfl, hO1, hb1⟩
    go_wp2_with fail
    go_loopw [20] (fun iv wr => ∃ (i : Nat) (o : List Nat), i ≤ a.length - k / 32 ∧ iv = .int .i64 (i : Int) ∧ OW wr w.heap.size A1 c1 o ∧ Hid (o.length = a.length - k / 32) ∧ Hid (Dn a o k i) ∧ Below w.heap.size w wr) (fun iv _ => (a.length - intOf iv).toNat)
    case atStart => exact ⟨0, _, Nat.zero_le _, rfl, hO1, by show _ = _; rw [List.length_drop], ⟨fun j hj => absurd hj (by omega), fun j _ => wd_drop a j _⟩, hb1⟩
    case round =>
      obtain ⟨i, o, hi, rfl, hO, hol, hD, hbel⟩ := hrel
      by_cases h0 : i < a.length - k / 32
      · have hok : i < o.length := by have := hol.out; omega
        rcases hO.form with ⟨_, _, he⟩ | ⟨g, rfl, hg1, hg2, _⟩
        · rw [he] at hok; simp at hok
        have hoc := hO.cell hok
        rw [hD.out.2 i (Nat.le_refl _)] at hoc
        have hfz := hO.frozen i
        have hwx := wd_lt ba (k / 32 + i)
        have hwy := wd_lt ba (k / 32 + i + 1)
        have hst := Lib.hid (Dn_step hD.out hok)
        have hset := hO.set i (dnw_lt (wd a (k / 32 + i)) (wd a (k / 32 + i + 1)) (k % 32))
        have hbel2 := hbel.setCell (p := ⟨g, i, none⟩) hg1 (.int .u32 (dnw (wd a (k / 32 + i)) (wd a (k / 32 + i + 1)) (k % 32) : Nat))
        by_cases h1 : i + 1 < a.length - k / 32
        · have hok1 : i + 1 < o.length := by have := hol.out; omega
          have hoc1 := hO.cell hok1
          rw [hD.out.2 (i + 1) (by omega), ← Nat.add_assoc] at hoc1
          have e3 : bits .or .u64 (wd a (k / 32 + i) : Int) ((wd a (k / 32 + i + 1) : Int) * 4294967296) = (x2 (wd a (k / 32 + i)) (wd a (k / 32 + i + 1)) : Int) := by
            have h5 : ((wd a (k / 32 + i + 1) : Int) * 4294967296) = ((wd a (k / 32 + i + 1) * 4294967296 : Nat) : Int) := by omega
            rw [h5, u64_or_nat _ _ (by omega) (by omega), or_hi hwx]; rfl
          have hx2 := x2_lt hwx hwy
          have e4 := dnw_int (wd a (k / 32 + i)) (wd a (k / 32 + i + 1)) (k % 32)
          go_wp2
          go_roundw
          case rel => exact ⟨i + 1, _, by omega, by go_num, hset, by show _ = _; rw [List.length_set]; exact hol.out, hst, hbel2⟩
          case measure => simp [intOf]; omega
        · have hy0 := Lib.hid (wd_out (l := a) (k := k / 32 + i + 1) (by omega))
          rw [hy0.out] at hst hset hbel2
          have e4 := dnw_int0 (wd a (k / 32 + i)) (k % 32)
          go_wp2
          go_roundw
          case rel => exact ⟨i + 1, _, by omega, by go_num, hset, by show _ = _; rw [List.length_set]; exact hol.out, hst, hbel2⟩
          case measure => simp [intOf]; omega
      · obtain rfl : i = a.length - k / 32 := by omega
        have hfin := Lib.hid (down_all ba hol.out (fun j hj => hD.out.1 j (by have := hol.out; omega)))
        have hO2 := hO.rw
        go_wp2_with (go_at_call 57; refine (norm_any _ _ _ o _ hol.out.symm hO2).mono ?_; rintro e w' ⟨rfl, rfl⟩)
        go_ret
        have hn := hO.norm
        rw [hfin.out] at hn ⊢
        exact ⟨_, _, rfl, hn, hbel⟩

theorem wd_snoc {o : List Nat} {j : Nat} (h : o.length = j) (x : Nat) : wd (o ++ [x]) j = x := by
  subst h; unfold wd; simp [List.getD_eq_getElem?_getD]
theorem rdn_step {a o : List Nat} {k i : Nat} (ho : o.length = i) (h : ∀ j, j < i → wd o j = dnw (wd a (k / 32 + j)) (wd a (k / 32 + j + 1)) (k % 32)) :
    ∀ j, j < i + 1 → wd (o ++ [dnw (wd a (k / 32 + i)) (wd a (k / 32 + i + 1)) (k % 32)]) j = dnw (wd a (k / 32 + j)) (wd a (k / 32 + j + 1)) (k % 32) := by
  intro j hj
  by_cases e : j < i
  · rw [wd_append_left (by omega)]; exact h j e
  · obtain rfl : j = i := by omega
    exact wd_snoc ho _

set_option maxHeartbeats 2000000 in
theorem rdown_any (A : Option Addr) (c n : Nat) (a : List Nat) (w : World) (k : Nat) (hk : k ≤ 1000000) (hn : n = a.length) (ha : RW w w.heap.size A c a) (hla : a.length ≤ 17592186044416) :
    Calls Try.prog 91 #[.slice A n c, .int .i64 (k : Int)] w (RetW w (val a / 2 ^ k)) := by
  subst hn
  have ba := ha.b32
  have hs32 : k % 32 < 32 := Nat.mod_lt _ (by omega)
  go_enter Try.func91, Try.ntmps91
  go_wp2
  go_loopw [5, 6] (fun sv iv wr => ∃ (i : Nat) (A' : Option Addr) (c' : Nat) (o : List Nat), (i = 0 ∨ k / 32 + i ≤ a.length) ∧ iv = .int .i64 ((k / 32 + i : Nat) : Int) ∧ sv = .slice A' o.length c' ∧ OW wr w.heap.size A' c' o ∧ Hid (o.length = i) ∧
      Hid (∀ j, j < i → wd o j = dnw (wd a (k / 32 + j)) (wd a (k / 32 + j + 1)) (k % 32)) ∧ Below w.heap.size w wr) (fun _ iv _ => (a.length - intOf iv).toNat)
  case atStart => exact ⟨0, _, 0, [], .inl rfl, by go_num, rfl, OW.empty w, rfl, fun j hj => absurd hj (by omega), (Below.refl w.heap.size w).alloc (Nat.le_refl _) _⟩
  case round =>
    obtain ⟨i, A', c', o, hi, rfl, rfl, hO, hol, hD, hbel⟩ := hrel
    have ha1 := (ha.below hbel).more hbel.size
    have hwx := wd_lt ba (k / 32 + i)
    have hwy := wd_lt ba (k / 32 + i + 1)
    by_cases h0 : k / 32 + i < a.length
    · have e3 : bits .or .u64 (wd a (k / 32 + i) : Int) ((wd a (k / 32 + i + 1) : Int) * 4294967296) = (x2 (wd a (k / 32 + i)) (wd a (k / 32 + i + 1)) : Int) := by
        have h5 : ((wd a (k / 32 + i + 1) : Int) * 4294967296) = ((wd a (k / 32 + i + 1) * 4294967296 : Nat) : Int) := by omega
        rw [h5, u64_or_nat _ _ (by omega) (by omega), or_hi hwx]; rfl
      have hx2 := x2_lt hwx hwy
      have e4 := dnw_int (wd a (k / 32 + i)) (wd a (k / 32 + i + 1)) (k % 32)
      have hst := Lib.hid (rdn_step hol.out hD.out)
      have hone := RW.one wr 53 (dnw_lt (wd a (k / 32 + i)) (wd a (k / 32 + i + 1)) (k % 32))
      have hb2 : Below w.heap.size w (wr.alloc (.cells #[.int .u32 (dnw (wd a (k / 32 + i)) (wd a (k / 32 + i + 1)) (k % 32) : Int)] 53)) := hbel.alloc hbel.size _
      have hol2 : o.length ≤ 17592186044416 := by have := hol.out; omega
      have hK : Hid ((o ++ [dnw (wd a (k / 32 + i)) (wd a (k / 32 + i + 1)) (k % 32)]).length = i + 1) := by show _ = _; rw [List.length_append, hol.out]; rfl
      clear hi
      go_wp2_with fail
      refine (word_k _ _ _ a _ _ (k / 32 + i) (by omega) rfl ha1).mono ?_; rintro e w' ⟨rfl, rfl⟩
      go_wp2_with fail
      refine (word_k _ _ _ a _ _ (k / 32 + i + 1) (by omega) rfl ha1).mono ?_; rintro e w' ⟨rfl, rfl⟩
      go_wp2_with (at_builtin; refine wp_appW _ rfl _ _ rfl w.heap.size _ _ _ o rfl rfl (hO.alloc _) _ _ _ [dnw (wd a (k / 32 + i)) (wd a (k / 32 + i + 1)) (k % 32)] rfl rfl _ hone (by simp; omega) hb2.size ?_; intro A2 c2 w2 g1 g2 g3)
      go_roundw
      case rel => exact ⟨i + 1, A2, c2, _, .inr (by omega), by go_num, by rw [List.length_append]; rfl, g1, hK, hst, hb2.trans g3⟩
      case measure => simp [intOf]; omega
    · have hil : Hid (o.length = a.length - k / 32) := by show _ = _; rw [hol.out]; rcases hi with h | h <;> omega
      have hfin := Lib.hid (down_all ba hil.out (fun j hj => hD.out j (by have := hol.out; omega)))
      have hO2 := hO.rw
      have hol2 : o.length ≤ 17592186044416 := by have := hil.out; omega
      clear hi
      go_wp2_with (go_at_call 59; refine (rnorm_any _ _ _ o _ rfl hO2).mono ?_; rintro e w3 ⟨A3, c3, rfl, g4, g5⟩)
      go_ret
      rw [hfin.out] at g4 ⊢
      exact ⟨A3, c3, rfl, g4.base_le hbel.size, hbel.trans (g5.mono hbel.size)⟩
end Go.Proofs.Ytabcnpcfknlmlaa
namespace Go.Proofs.Ytabcnpcfknlmlaa
open Go.RowKit

def shiftA (a : List Nat) (i : Int) : Nat × Int :=
  if soundB a then (if i < -16384 ∨ i > 16384 then (0, 1) else if i < 0 then (val a / 2 ^ (-i).toNat, 0) else fitA (val a * 2 ^ i.toNat)) else (0, 2)
theorem down_i (A : Option Addr) (c n : Nat) (a : List Nat) (w : World) (i : Int) (k : Nat) (hi : i = (k : Int)) (hk : k ≤ 1000000) (hn : n = a.length) (ha : RW w w.heap.size A c a) :
    Calls Try.prog 90 #[.slice A n c, .int .i64 i] w (RetW w (val a / 2 ^ k)) := by subst hi; exact down_any A c n a w k hk hn ha
theorem up_i (A : Option Addr) (c n : Nat) (a : List Nat) (w : World) (i : Int) (k : Nat) (hi : i = (k : Int)) (hk : k ≤ 1000000) (hn : n = a.length) (ha : RW w w.heap.size A c a) (hla : a.length ≤ 17592186044416) :
    Calls Try.prog 29 #[.slice A n c, .int .i64 i] w (RetW w (val a * 2 ^ k)) := by subst hi; exact up_any A c n a w k hk hn ha hla
theorem rdown_i (A : Option Addr) (c n : Nat) (a : List Nat) (w : World) (i : Int) (k : Nat) (hi : i = (k : Int)) (hk : k ≤ 1000000) (hn : n = a.length) (ha : RW w w.heap.size A c a) (hla : a.length ≤ 17592186044416) :
    Calls Try.prog 91 #[.slice A n c, .int .i64 i] w (RetW w (val a / 2 ^ k)) := by subst hi; exact rdown_any A c n a w k hk hn ha hla
theorem rup_i (A : Option Addr) (c n : Nat) (a : List Nat) (w : World) (i : Int) (k : Nat) (hi : i = (k : Int)) (hk : k ≤ 1000000) (hn : n = a.length) (ha : RW w w.heap.size A c a) (hla : a.length ≤ 17592186044416) :
    Calls Try.prog 36 #[.slice A n c, .int .i64 i] w (RetW w (val a * 2 ^ k)) := by subst hi; exact rup_any A c n a w k hk hn ha hla

end Go.Proofs.Ytabcnpcfknlmlaa
namespace Go.Proofs.Ytabcnpcfknlmlaa
open Go.RowKit

def sdiv (r x d : Nat) : Nat := (r * 4294967296 + x) / d
def smod (r x d : Nat) : Nat := (r * 4294967296 + x) % d
def scat (r x : Nat) : Nat := r * 4294967296 + x
theorem scat_or {r x : Nat} (hr : r < 4294967296) (hx : x < 4294967296) : bits .or .u64 ((r : Int) * 4294967296) (x : Int) = (scat r x : Int) := by
  have h : ((r : Int) * 4294967296) = ((r * 4294967296 : Nat) : Int) := by omega
  rw [h, u64_or_nat _ _ (by omega) (by omega), Nat.or_comm, or_hi hx, Nat.add_comm]; rfl
theorem scat_lt {r x : Nat} (hr : r < 4294967296) (hx : x < 4294967296) : scat r x ≤ 18446744073709551615 := by unfold scat; omega
theorem scat_div (r x d : Nat) : (scat r x : Int) / (d : Int) = (sdiv r x d : Int) := by unfold scat sdiv; simp
theorem scat_mod (r x d : Nat) : (scat r x : Int) % (d : Int) = (smod r x d : Int) := by unfold scat smod; simp

def RetW2 (w : World) (N r : Nat) (e : Ending) (w' : World) : Prop :=
  ∃ A' c', e = .returned (.tuple #[.slice A' (digs N).length c', .int .u32 (r : Int)]) ∧ OW w' w.heap.size A' c' (digs N) ∧ Below w.heap.size w w'

set_option maxHeartbeats 1000000 in
theorem short_any (A : Option Addr) (c n : Nat) (a : List Nat) (d : Nat) (w : World) (hd : 0 < d) (hd2 : d < 4294967296) (hn : n = a.length) (ha : RW w w.heap.size A c a) :
    Calls Try.prog 88 #[.slice A n c, .int .u32 (d : Int)] w (RetW2 w (val a / d) (val a % d)) := by
  subst hn
  have ba := ha.b32
  have hla := ha.big
  go_enter Try.func88, Try.ntmps88
  go_wp2_with (at_make; refine wp_makeW _ rfl _ _ rfl .i64 .i64 _ _ a.length rfl rfl (by omega) (by omega) (by omega) ?_; intro w1 hO1 hb1 hs1)
  go_loopw [7, 8] (fun rv iv wr => ∃ (k r : Nat) (o : List Nat), k ≤ a.length ∧ iv = .int .i64 ((k : Int) - 1) ∧ r < d ∧ rv = .int .u64 (r : Int) ∧ OW wr w.heap.size (some ⟨w.heap.size, 0, none⟩) a.length o ∧ Hid (o.length = a.length) ∧
      Hid (val (a.drop k) = val (o.drop k) * d + r) ∧ Below w.heap.size w wr) (fun _ iv _ => (intOf iv + 1).toNat)
  case atStart => exact ⟨a.length, 0, _, Nat.le_refl _, rfl, hd, rfl, hO1, by show _ = _; simp, by show _ = _; rw [List.drop_length, List.drop_of_length_le (by simp)]; simp [val], hb1⟩
  case round =>
    obtain ⟨k, r, o, hk, rfl, hr, rfl, hO, hol, hinv, hbel⟩ := hrel
    have ha1 := ha.below hbel
    by_cases h0 : 0 < k
    · obtain ⟨b1, o1, rfl, hlt1, hx⟩ := ha1.at_ (by omega)
      obtain ⟨j, rfl⟩ : ∃ j, k = j+1 := ⟨k-1, by omega⟩
      have hxk := hx j (by omega)
      have hwx := wd_lt ba j
      have hr2 : r < 4294967296 := by omega
      have hok : j < o.length := by have := hol.out; omega
      have hoc := hO.cell hok
      have hfz := hO.frozen j
      have e1 := scat_or hr2 hwx
      have hsl := scat_lt hr2 hwx
      have e2 := scat_div r (wd a j) d
      have e3 := scat_mod r (wd a j) d
      have hq : sdiv r (wd a j) d < 4294967296 := short_lt hd hr hwx
      have hrm : smod r (wd a j) d < d := Nat.mod_lt _ hd
      have hset := hO.set j hq
      have hst : Hid (val (a.drop j) = val ((o.set j (sdiv r (wd a j) d)).drop j) * d + smod r (wd a j) d) := short_step hd (by omega) hol.out hinv.out
      have hbel2 := hbel.setCell (p := ⟨w.heap.size, j, none⟩) (Nat.le_refl _) (.int .u32 (sdiv r (wd a j) d : Nat))
      clear hx ha ha1
      go_wp2
      go_roundw
      case rel => exact ⟨j, _, _, by omega, by go_num, hrm, rfl, hset, by show _ = _; rw [List.length_set]; exact hol.out, hst, hbel2⟩
      case measure => simp [intOf]
    · obtain rfl : k = 0 := by omega
      have hfin := hinv.out
      rw [List.drop_zero, List.drop_zero] at hfin
      have hf1 := Lib.hid (short_end hd hr hfin).1
      have hf2 := Lib.hid (short_end hd hr hfin).2
      clear hfin
      have hO2 := hO.rw
      go_wp2_with (go_at_call 57; refine (norm_any _ _ _ o _ hol.out.symm hO2).mono ?_; rintro e w' ⟨rfl, rfl⟩)
      go_ret2
      have hn := hO.norm
      rw [hf1.out] at hn ⊢
      rw [← hf2.out]
      exact ⟨_, _, rfl, hn, hbel⟩
end Go.Proofs.Ytabcnpcfknlmlaa
