/- Walks: Times of both. -/
import Derived.Test.YtabcnpcfknlmlaaNatD
namespace Go.Proofs.Ytabcnpcfknlmlaa
open Go.RowKit

def Zs (o : List Nat) (k : Nat) : Prop := ∀ t, k ≤ t → wd o t = 0
theorem Zs_rep (n k : Nat) : Zs (List.replicate n 0) k := fun t _ => wd_replicate n t
theorem Zs_set {o : List Nat} {k j x : Nat} (h : Zs o k) (hj : j < k) : Zs (o.set j x) k := fun t ht => by rw [wd_set_ne (by omega)]; exact h t ht
theorem Zs_more {o : List Nat} {k k' : Nat} (h : Zs o k) (hk : k ≤ k') : Zs o k' := fun t ht => h t (by omega)

set_option maxHeartbeats 2000000 in
theorem times_any (A D : Option Addr) (c d n m : Nat) (a b : List Nat) (w : World) (hn : n = a.length) (hm : m = b.length) (ha : RW w w.heap.size A c a) (hb : RW w w.heap.size D d b) (hla : a.length ≤ 17592186044416) (hlb : b.length ≤ 17592186044416) :
    Calls Try.prog 47 #[.slice A n c, .slice D m d] w (RetW w (val a * val b)) := by
  subst hn hm
  have ba := ha.b32
  have bb := hb.b32
  go_enter Try.func47, Try.ntmps47
  go_wp2_with (at_make; refine wp_makeW _ rfl _ _ rfl .i64 .i64 _ _ (a.length + b.length) rfl rfl (by omega) (by omega) (by omega) ?_; intro w1 hO1 hb1 hs1)
  go_loopw [19] (fun iv wr => ∃ (i : Nat) (o : List Nat), i ≤ a.length ∧ iv = .int .i64 (i : Int) ∧ OW wr w.heap.size (some ⟨w.heap.size, 0, none⟩) (a.length + b.length) o ∧ Hid (o.length = a.length + b.length) ∧
      Hid (val o = val (a.take i) * val b) ∧ Hid (Zs o (i + b.length)) ∧ Below w.heap.size w wr) (fun iv _ => (a.length - intOf iv).toNat)
  case atStart => exact ⟨0, _, Nat.zero_le _, rfl, hO1, by show _ = _; simp, by show _ = _; simp [val, val_replicate], Zs_rep _ _, hb1⟩
  case round =>
    obtain ⟨i, o, hi, rfl, hO, hol, hinv, hz, hbel⟩ := hrel
    obtain ⟨wo, rfl⟩ : ∃ wo : World, wo = wr := ⟨_, rfl⟩
    have hwx := wd_lt ba i
    have ha1 := ha.below hbel
    by_cases h0 : i < a.length
    · obtain ⟨b1, o1, rfl, hlt1, hx⟩ := ha1.at_ (by omega)
      have hxk := hx i h0
      clear hx ha ha1
      go_wp2
      go_loopw [8, 26] (fun cv jv wr => ∃ (j q : Nat) (o' : List Nat), j ≤ b.length ∧ jv = .int .i64 (j : Int) ∧ q < 4294967296 ∧ cv = .int .u64 (q : Int) ∧ OW wr w.heap.size (some ⟨w.heap.size, 0, none⟩) (a.length + b.length) o' ∧ Hid (o'.length = a.length + b.length) ∧
        Hid (val o' + q * Wp (i + j) = val o + wd a i * Wp i * val (b.take j)) ∧ Hid (Zs o' (i + b.length)) ∧ Below w.heap.size w wr) (fun _ jv _ => (b.length - intOf jv).toNat)
      case atStart => exact ⟨0, 0, o, Nat.zero_le _, rfl, by omega, rfl, hO, hol, by show _ = _; simp [val], hz, hbel⟩
      case round =>
        obtain ⟨j, q, o', hj, rfl, hq, rfl, hO', hol', hinv', hz', hbel'⟩ := hrel
        have hwy := wd_lt bb j
        have hb1 := hb.below hbel'
        have hwo := wd_lt hO'.b32 (i + j)
        have hfz := hO'.frozen
        by_cases h1 : j < b.length
        · obtain ⟨b2, o2, rfl, hlt2, hy⟩ := hb1.at_ (by omega)
          have hyk := hy j h1
          clear hy hb hb1
          have hok : i + j < o'.length := by have := hol'.out; omega
          have hoc := hO'.cell hok
          have hfzk := hfz (i + j)
          have hst := Lib.hid (times_step hok (wd a i) rfl hinv'.out)
          have hset := hO'.set (i + j) (tf_lt q (wd a i) (wd b j) (wd o' (i + j)))
          have hcl := tc_lt hq hwx hwy hwo
          have hbel2 := hbel'.setCell (p := ⟨w.heap.size, i + j, none⟩) (Nat.le_refl _) (.int .u32 (tf q (wd a i) (wd b j) (wd o' (i + j)) : Nat))
          obtain ⟨hm0, hm1⟩ := mulI hwx hwy
          have e1 := tf_int q (wd a i) (wd b j) (wd o' (i + j))
          have e2 := tc_int q (wd a i) (wd b j) (wd o' (i + j))
          go_wp2
          go_roundw
          case rel => exact ⟨j + 1, _, _, by omega, by go_num, hcl, rfl, hset, by show _ = _; rw [List.length_set]; exact hol'.out, hst, Zs_set hz'.out (by omega), hbel2⟩
          case measure => simp [intOf]; omega
        · obtain rfl : j = b.length := by omega
          have hok : i + b.length < o'.length := by have := hol'.out; omega
          have hoc := hO'.cell hok
          have hfzk := hfz (i + b.length)
          have hset := hO'.set (i + b.length) hq
          have hbel2 := hbel'.setCell (p := ⟨w.heap.size, i + b.length, none⟩) (Nat.le_refl _) (.int .u32 (q : Nat))
          have hfin := Lib.hid (times_end (a := a) hok (hz'.out _ (Nat.le_refl _)) hinv'.out hinv.out)
          clear hb hb1
          go_wp2
          go_roundw
          case rel => exact ⟨i + 1, _, by omega, by go_num, hset, by show _ = _; rw [List.length_set]; exact hol'.out, hfin, Zs_set (Zs_more hz'.out (by omega)) (by omega), hbel2⟩
          case measure => simp [intOf]; omega
    · obtain rfl : i = a.length := by omega
      have hO2 := hO.rw
      have hfin : Hid (val o = val a * val b) := by have := hinv.out; rw [List.take_length] at this; exact this
      go_wp2_with (go_at_call 57; refine (norm_any _ _ _ o _ hol.out.symm hO2).mono ?_; rintro e w' ⟨rfl, rfl⟩)
      go_ret
      have hn := hO.norm
      rw [hfin.out] at hn ⊢
      exact ⟨_, _, rfl, hn, hbel⟩

set_option maxHeartbeats 2000000 in
theorem rtimes_any (A D : Option Addr) (c d n m : Nat) (a b : List Nat) (w : World) (hn : n = a.length) (hm : m = b.length) (ha : RW w w.heap.size A c a) (hb : RW w w.heap.size D d b) (hla : a.length ≤ 8796093022208) (hlb : b.length ≤ 8796093022208) :
    Calls Try.prog 32 #[.slice A n c, .slice D m d] w (RetW w (val a * val b)) := by
  subst hn hm
  have ba := ha.b32
  have bb := hb.b32
  go_enter Try.func32, Try.ntmps32
  go_wp2_with (at_make; refine wp_makeW _ rfl _ _ rfl .i64 .i64 _ _ (a.length + b.length + 1) rfl rfl (by omega) (by omega) (by omega) ?_; intro w1 hO1 hb1 hs1)
  go_loopw [6] (fun iv wr => ∃ (i : Nat) (o : List Nat), i ≤ a.length ∧ iv = .int .i64 (i : Int) ∧ OW wr w.heap.size (some ⟨w.heap.size, 0, none⟩) (a.length + b.length + 1) o ∧ Hid (o.length = a.length + b.length + 1) ∧
      Hid (val o = val (a.take i) * val b) ∧ Hid (Zs o (i + b.length)) ∧ Below w.heap.size w wr) (fun iv _ => (a.length - intOf iv).toNat)
  case atStart => exact ⟨0, _, Nat.zero_le _, rfl, hO1, by show _ = _; simp, by show _ = _; simp [val, val_replicate], Zs_rep _ _, hb1⟩
  case round =>
    obtain ⟨i, o, hi, rfl, hO, hol, hinv, hz, hbel⟩ := hrel
    obtain ⟨wo, rfl⟩ : ∃ wo : World, wo = wr := ⟨_, rfl⟩
    have hwx := wd_lt ba i
    have ha1 := ha.below hbel
    by_cases h0 : i < a.length
    · obtain ⟨b1, o1, rfl, hlt1, hx⟩ := ha1.at_ (by omega)
      have hxk := hx i h0
      clear hx ha1
      go_wp2
      go_loopw [7, 8] (fun cv jv wr => ∃ (j q : Nat) (o' : List Nat), j ≤ b.length + 1 ∧ jv = .int .i64 (j : Int) ∧ q < 4294967296 ∧ cv = .int .u64 (q : Int) ∧ OW wr w.heap.size (some ⟨w.heap.size, 0, none⟩) (a.length + b.length + 1) o' ∧ Hid (o'.length = a.length + b.length + 1) ∧
        Hid (val o' + q * Wp (i + j) = val o + wd a i * Wp i * val (b.take j)) ∧ Hid (Zs o' (max (i + b.length) (i + j))) ∧ Hid (j = b.length + 1 → q = 0) ∧ Below w.heap.size w wr) (fun _ jv _ => (b.length + 1 - intOf jv).toNat)
      case atStart => exact ⟨0, 0, o, Nat.zero_le _, rfl, by omega, rfl, hO, hol, by show _ = _; simp [val], Zs_more hz.out (by omega), fun _ => rfl, hbel⟩
      case round =>
        obtain ⟨j, q, o', hj, rfl, hq, rfl, hO', hol', hinv', hz', hlast, hbel'⟩ := hrel
        have hwy := wd_lt bb j
        have hb1 := (hb.below hbel').more hbel'.size
        have ha1 := ha.below hbel'
        have hwo := wd_lt hO'.b32 (i + j)
        have hfz := hO'.frozen
        by_cases h1 : j ≤ b.length
        · obtain ⟨b3, o3, e3, hlt3, hx3⟩ := ha1.at_ (by omega)
          have hxk3 := hx3 i h0
          simp only [Option.some.injEq, Addr.mk.injEq, and_true] at e3
          obtain ⟨rfl, rfl⟩ := e3
          clear hx3 ha ha1
          have hok : i + j < o'.length := by have := hol'.out; omega
          have hoc := hO'.cell hok
          have hfzk := hfz (i + j)
          have hst := Lib.hid (rtimes_step hok (wd a i) hinv'.out)
          have hset := hO'.set (i + j) (uf_lt (wd o' (i + j)) (wd a i) (wd b j) q)
          have hcl := uc_lt hq hwx hwy hwo
          have hbel2 := hbel'.setCell (p := ⟨w.heap.size, i + j, none⟩) (Nat.le_refl _) (.int .u32 (uf (wd o' (i + j)) (wd a i) (wd b j) q : Nat))
          obtain ⟨hm0, hm1⟩ := mulI hwx hwy
          have e1 := uf_int q (wd a i) (wd b j) (wd o' (i + j))
          have e2 := uc_int q (wd a i) (wd b j) (wd o' (i + j))
          have hl2 : Hid (j + 1 = b.length + 1 → uc (wd o' (i + j)) (wd a i) (wd b j) q = 0) := fun hj2 => by
            obtain rfl : j = b.length := by omega
            rw [hz'.out (i + b.length) (by omega), wd_out (l := b) (Nat.le_refl _)]
            exact uc_zero hq
          go_wp2
          go_quiet ((go_at_call 58; exact quiet_left (word_k _ _ _ b _ _ j rfl rfl hb1)))
          go_wp2
          go_roundw
          case rel => exact ⟨j + 1, _, _, by omega, by go_num, hcl, rfl, hset, by show _ = _; rw [List.length_set]; exact hol'.out, hst, Zs_set (Zs_more hz'.out (by omega)) (by omega), hl2, bdN hbel2 _⟩
          case measure => simp [intOf]; omega
        · obtain rfl : j = b.length + 1 := by omega
          have hq0 := Lib.hid (hlast.out rfl)
          have hfin := Lib.hid (rtimes_end (a := a) (b := b) (by rw [← hq0.out]; exact hinv'.out) hinv.out)
          clear hb1 ha1
          go_wp2
          go_roundw
          case rel => exact ⟨i + 1, o', by omega, by go_num, hO', hol', hfin, Zs_more hz'.out (by omega), hbel'⟩
          case measure => simp [intOf]; omega
    · obtain rfl : i = a.length := by omega
      have hO2 := hO.rw
      have hfin : Hid (val o = val a * val b) := by have := hinv.out; rw [List.take_length] at this; exact this
      go_wp2_with (go_at_call 59; refine (rnorm_any _ _ _ o _ hol.out.symm hO2).mono ?_; rintro e w3 ⟨A3, c3, rfl, g4, g5⟩)
      go_ret
      rw [hfin.out] at g4 ⊢
      exact ⟨_, _, rfl, g4.base_le hbel.size, hbel.trans (g5.mono hbel.size)⟩
end Go.Proofs.Ytabcnpcfknlmlaa
