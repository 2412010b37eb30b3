/- Walks: Down of both. -/
import Derived.Test.YtabcnpcfknlmlaaNatM
namespace Go.Proofs.Ytabcnpcfknlmlaa
open Go.RowKit

theorem RW_drop {w : World} {B : Nat} {b off c : Nat} {l : List Nat} (h : RW w B (some ⟨b, off, none⟩) c l) (q : Nat) (hq : q ≤ l.length) : RW w B (some ⟨b, off + q, none⟩) (c - q) (l.drop q) := by
  refine ⟨⟨by rw [List.length_drop]; have := h.lc; omega, by rw [List.length_drop]; have := h.big; omega, fun hn => ?_⟩, B32_drop h.2 q⟩
  rw [List.length_drop] at hn
  obtain ⟨b', off', e, hb, hc⟩ := h.1.at_ (by omega)
  simp only [Option.some.injEq, Addr.mk.injEq, and_true] at e
  obtain ⟨rfl, rfl⟩ := e
  refine ⟨b, off + q, rfl, hb, fun k x hk => ?_⟩
  rw [List.getElem?_drop] at hk
  rw [Nat.add_assoc]
  exact hc _ x hk

def Dn (a o : List Nat) (k i : Nat) : Prop :=
  (∀ j, j < i → wd o j = dnw (wd a (k / 32 + j)) (wd a (k / 32 + j + 1)) (k % 32)) ∧ ∀ j, i ≤ j → wd o j = wd a (k / 32 + j)
theorem Dn_step {a o : List Nat} {k i : Nat} (h : Dn a o k i) (hi : i < o.length) : Dn a (o.set i (dnw (wd a (k / 32 + i)) (wd a (k / 32 + i + 1)) (k % 32))) k (i + 1) := by
  constructor
  · intro j hj
    by_cases e : i = j
    · subst e; rw [wd_set_eq hi]
    · rw [wd_set_ne e]; exact h.1 j (by omega)
  · intro j hj
    rw [wd_set_ne (by omega)]; exact h.2 j (by omega)

set_option maxHeartbeats 2000000 in
theorem down_any (A : Option Addr) (c n : Nat) (a : List Nat) (w : World) (k : Nat) (hk : k ≤ 1000000) (hn : n = a.length) (ha : RW w w.heap.size A c a) :
    Calls Try.prog 90 #[.slice A n c, .int .i64 (k : Int)] w (RetW w (val a / 2 ^ k)) := by
  subst hn
  have ba := ha.b32
  have hbig := ha.big
  have hs32 : k % 32 < 32 := Nat.mod_lt _ (by omega)
  by_cases hq : a.length ≤ k / 32
  · have hv : Hid (val a / 2 ^ k = 0) := by
      have := dn_lt ba k
      rw [show a.length - k / 32 = 0 by omega, Wp_zero] at this
      exact Nat.lt_one_iff.1 this
    go_enter Try.func90, Try.ntmps90
    go_wp2
    go_ret
    rw [hv.out]
    exact ⟨none, 0, by rw [digs_zero]; rfl, by rw [digs_zero]; exact OW.nil _ _, Below.refl _ _⟩
  · obtain ⟨b, off, rfl, hb, _⟩ := ha.at_ (by omega)
    have hlc := ha.lc
    have hck : ¬ c = k / 32 := by omega
    have hcl := clone_any (some ⟨b, off + k / 32, none⟩) (c - k / 32) (a.length - k / 32) (a.drop (k / 32)) w (by rw [List.length_drop]) (RW_drop ha _ (by omega))
    rw [List.length_drop] at hcl
    clear ha
    go_enter Try.func90, Try.ntmps90
    go_wp2_with fail
    refine hcl.mono ?_; rintro e w1 ⟨A1, c1, rfl, hO1, hb1⟩
    go_wp2_with fail
    go_loopw [20] (fun iv wr => ∃ (i : Nat) (o : List Nat), i ≤ a.length - k / 32 ∧ iv = .int .i64 (i : Int) ∧ OW wr w.heap.size A1 c1 o ∧ Hid (o.length = a.length - k / 32) ∧ Hid (Dn a o k i) ∧ Below w.heap.size w wr) (fun iv _ => (a.length - intOf iv).toNat)
    case atStart => exact ⟨0, _, Nat.zero_le _, rfl, hO1, by show _ = _; rw [List.length_drop], ⟨fun j hj => absurd hj (by omega), fun j _ => wd_drop a j _⟩, hb1⟩
    case round =>
      obtain ⟨i, o, hi, rfl, hO, hol, hD, hbel⟩ := hrel
      by_cases h0 : i < a.length - k / 32
      · have hok : i < o.length := by have := hol.out; omega
        rcases hO.form with ⟨_, _, he⟩ | ⟨g, rfl, hg1, hg2, _⟩
        · rw [he] at hok; simp at hok
        have hoc := hO.cell hok
        rw [hD.out.2 i (Nat.le_refl _)] at hoc
        have hfz := hO.frozen i
        have hwx := wd_lt ba (k / 32 + i)
        have hwy := wd_lt ba (k / 32 + i + 1)
        have hst := Lib.hid (Dn_step hD.out hok)
        have hset := hO.set i (dnw_lt (wd a (k / 32 + i)) (wd a (k / 32 + i + 1)) (k % 32))
        have hbel2 := hbel.setCell (p := ⟨g, i, none⟩) hg1 (.int .u32 (dnw (wd a (k / 32 + i)) (wd a (k / 32 + i + 1)) (k % 32) : Nat))
        by_cases h1 : i + 1 < a.length - k / 32
        · have hok1 : i + 1 < o.length := by have := hol.out; omega
          have hoc1 := hO.cell hok1
          rw [hD.out.2 (i + 1) (by omega), ← Nat.add_assoc] at hoc1
          have e3 : bits .or .u64 (wd a (k / 32 + i) : Int) ((wd a (k / 32 + i + 1) : Int) * 4294967296) = (x2 (wd a (k / 32 + i)) (wd a (k / 32 + i + 1)) : Int) := by
            have h5 : ((wd a (k / 32 + i + 1) : Int) * 4294967296) = ((wd a (k / 32 + i + 1) * 4294967296 : Nat) : Int) := by omega
            rw [h5, u64_or_nat _ _ (by omega) (by omega), or_hi hwx]; rfl
          have hx2 := x2_lt hwx hwy
          have e4 := dnw_int (wd a (k / 32 + i)) (wd a (k / 32 + i + 1)) (k % 32)
          go_wp2
          go_roundw
          case rel => exact ⟨i + 1, _, by omega, by go_num, hset, by show _ = _; rw [List.length_set]; exact hol.out, hst, hbel2⟩
          case measure => simp [intOf]; omega
        · have hy0 := Lib.hid (wd_out (l := a) (k := k / 32 + i + 1) (by omega))
          rw [hy0.out] at hst hset hbel2
          have e4 := dnw_int0 (wd a (k / 32 + i)) (k % 32)
          go_wp2
          go_roundw
          case rel => exact ⟨i + 1, _, by omega, by go_num, hset, by show _ = _; rw [List.length_set]; exact hol.out, hst, hbel2⟩
          case measure => simp [intOf]; omega
      · obtain rfl : i = a.length - k / 32 := by omega
        have hfin := Lib.hid (down_all ba hol.out (fun j hj => hD.out.1 j (by have := hol.out; omega)))
        have hO2 := hO.rw
        go_wp2_with (go_at_call 57; refine (norm_any _ _ _ o _ hol.out.symm hO2).mono ?_; rintro e w' ⟨rfl, rfl⟩)
        go_ret
        have hn := hO.norm
        rw [hfin.out] at hn ⊢
        exact ⟨_, _, rfl, hn, hbel⟩

theorem wd_snoc {o : List Nat} {j : Nat} (h : o.length = j) (x : Nat) : wd (o ++ [x]) j = x := by
  subst h; unfold wd; simp [List.getD_eq_getElem?_getD]
theorem rdn_step {a o : List Nat} {k i : Nat} (ho : o.length = i) (h : ∀ j, j < i → wd o j = dnw (wd a (k / 32 + j)) (wd a (k / 32 + j + 1)) (k % 32)) :
    ∀ j, j < i + 1 → wd (o ++ [dnw (wd a (k / 32 + i)) (wd a (k / 32 + i + 1)) (k % 32)]) j = dnw (wd a (k / 32 + j)) (wd a (k / 32 + j + 1)) (k % 32) := by
  intro j hj
  by_cases e : j < i
  · rw [wd_append_left (by omega)]; exact h j e
  · obtain rfl : j = i := by omega
    exact wd_snoc ho _

set_option maxHeartbeats 2000000 in
theorem rdown_any (A : Option Addr) (c n : Nat) (a : List Nat) (w : World) (k : Nat) (hk : k ≤ 1000000) (hn : n = a.length) (ha : RW w w.heap.size A c a) (hla : a.length ≤ 17592186044416) :
    Calls Try.prog 91 #[.slice A n c, .int .i64 (k : Int)] w (RetW w (val a / 2 ^ k)) := by
  subst hn
  have ba := ha.b32
  have hs32 : k % 32 < 32 := Nat.mod_lt _ (by omega)
  go_enter Try.func91, Try.ntmps91
  go_wp2
  go_loopw [5, 6] (fun sv iv wr => ∃ (i : Nat) (A' : Option Addr) (c' : Nat) (o : List Nat), (i = 0 ∨ k / 32 + i ≤ a.length) ∧ iv = .int .i64 ((k / 32 + i : Nat) : Int) ∧ sv = .slice A' o.length c' ∧ OW wr w.heap.size A' c' o ∧ Hid (o.length = i) ∧
      Hid (∀ j, j < i → wd o j = dnw (wd a (k / 32 + j)) (wd a (k / 32 + j + 1)) (k % 32)) ∧ Below w.heap.size w wr) (fun _ iv _ => (a.length - intOf iv).toNat)
  case atStart => exact ⟨0, _, 0, [], .inl rfl, by go_num, rfl, OW.empty w, rfl, fun j hj => absurd hj (by omega), (Below.refl w.heap.size w).alloc (Nat.le_refl _) _⟩
  case round =>
    obtain ⟨i, A', c', o, hi, rfl, rfl, hO, hol, hD, hbel⟩ := hrel
    have ha1 := (ha.below hbel).more hbel.size
    have hwx := wd_lt ba (k / 32 + i)
    have hwy := wd_lt ba (k / 32 + i + 1)
    by_cases h0 : k / 32 + i < a.length
    · have e3 : bits .or .u64 (wd a (k / 32 + i) : Int) ((wd a (k / 32 + i + 1) : Int) * 4294967296) = (x2 (wd a (k / 32 + i)) (wd a (k / 32 + i + 1)) : Int) := by
        have h5 : ((wd a (k / 32 + i + 1) : Int) * 4294967296) = ((wd a (k / 32 + i + 1) * 4294967296 : Nat) : Int) := by omega
        rw [h5, u64_or_nat _ _ (by omega) (by omega), or_hi hwx]; rfl
      have hx2 := x2_lt hwx hwy
      have e4 := dnw_int (wd a (k / 32 + i)) (wd a (k / 32 + i + 1)) (k % 32)
      have hst := Lib.hid (rdn_step hol.out hD.out)
      have hone := RW.one wr 53 (dnw_lt (wd a (k / 32 + i)) (wd a (k / 32 + i + 1)) (k % 32))
      have hb2 : Below w.heap.size w (wr.alloc (.cells #[.int .u32 (dnw (wd a (k / 32 + i)) (wd a (k / 32 + i + 1)) (k % 32) : Int)] 53)) := hbel.alloc hbel.size _
      have hol2 : o.length ≤ 17592186044416 := by have := hol.out; omega
      have hK : Hid ((o ++ [dnw (wd a (k / 32 + i)) (wd a (k / 32 + i + 1)) (k % 32)]).length = i + 1) := by show _ = _; rw [List.length_append, hol.out]; rfl
      clear hi
      go_wp2_with fail
      refine (word_k _ _ _ a _ _ (k / 32 + i) (by omega) rfl ha1).mono ?_; rintro e w' ⟨rfl, rfl⟩
      go_wp2_with fail
      refine (word_k _ _ _ a _ _ (k / 32 + i + 1) (by omega) rfl ha1).mono ?_; rintro e w' ⟨rfl, rfl⟩
      go_wp2_with (at_builtin; refine wp_appW _ rfl _ _ rfl w.heap.size _ _ _ o rfl rfl (hO.alloc _) _ _ _ [dnw (wd a (k / 32 + i)) (wd a (k / 32 + i + 1)) (k % 32)] rfl rfl _ hone (by simp; omega) hb2.size ?_; intro A2 c2 w2 g1 g2 g3)
      go_roundw
      case rel => exact ⟨i + 1, A2, c2, _, .inr (by omega), by go_num, by rw [List.length_append]; rfl, g1, hK, hst, hb2.trans g3⟩
      case measure => simp [intOf]; omega
    · have hil : Hid (o.length = a.length - k / 32) := by show _ = _; rw [hol.out]; rcases hi with h | h <;> omega
      have hfin := Lib.hid (down_all ba hil.out (fun j hj => hD.out j (by have := hol.out; omega)))
      have hO2 := hO.rw
      have hol2 : o.length ≤ 17592186044416 := by have := hil.out; omega
      clear hi
      go_wp2_with (go_at_call 59; refine (rnorm_any _ _ _ o _ rfl hO2).mono ?_; rintro e w3 ⟨A3, c3, rfl, g4, g5⟩)
      go_ret
      rw [hfin.out] at g4 ⊢
      exact ⟨A3, c3, rfl, g4.base_le hbel.size, hbel.trans (g5.mono hbel.size)⟩
end Go.Proofs.Ytabcnpcfknlmlaa
