/- Walks: Plus and Less of both, of lists of any length. -/
import Derived.Test.YtabcnpcfknlmlaaNatB
namespace Go.Proofs.Ytabcnpcfknlmlaa
open Go.RowKit

/-- an answer: a slice of the call's own that holds a number's words -/
def RetW (w : World) (N : Nat) (e : Ending) (w' : World) : Prop := ∃ A' c', e = .returned (.slice A' (digs N).length c') ∧ OW w' w.heap.size A' c' (digs N) ∧ Below w.heap.size w w'

set_option maxHeartbeats 1000000 in
theorem plus_any (A D : Option Addr) (c d n m : Nat) (a b : List Nat) (w : World) (hn : n = a.length) (hm : m = b.length) (ha : RW w w.heap.size A c a) (hb : RW w w.heap.size D d b) (hla : a.length ≤ 17592186044416) (hlb : b.length ≤ 17592186044416) :
    Calls Try.prog 75 #[.slice A n c, .slice D m d] w (RetW w (val a + val b)) := by
  subst hn hm
  have ba := ha.b32
  have bb := hb.b32
  by_cases hlen : a.length < b.length
  · have hba2 : a.length ≤ b.length := by omega
    rw [Nat.add_comm (val a) (val b)]
    go_enter Try.func75, Try.ntmps75
    go_wp2_with (at_make; refine wp_makeW _ rfl _ _ rfl .i64 .i64 _ _ (b.length + 1) rfl rfl (by omega) (by omega) (by omega) ?_; intro w1 hO1 hb1 hs1)
    go_loopw [6, 22] (fun cr i wr => ∃ (k q : Nat) (o : List Nat), k ≤ b.length ∧ i = .int .i64 (k : Int) ∧ q ≤ 1 ∧ cr = .int .u32 (q : Int) ∧ OW wr w.heap.size (some ⟨w.heap.size, 0, none⟩) (b.length + 1) o ∧ Hid (o.length = b.length + 1) ∧
        Hid (val (o.take k) + q * Wp k = val (b.take k) + val (a.take k)) ∧ Below w.heap.size w wr) (fun _ i _ => (b.length - intOf i).toNat)
    case atStart => exact ⟨0, 0, _, Nat.zero_le _, rfl, by omega, rfl, hO1, by show _ = _; simp, by show _ = _; simp [val], hb1⟩
    case round =>
      obtain ⟨k, q, o, hk, rfl, hq, rfl, hO, hol, hinv, hbel⟩ := hrel
      have hwx := wd_lt bb k
      have hwy := wd_lt ba k
      have hb1 := hb.below hbel
      have ha1 := ha.below hbel
      have hfz := hO.frozen
      by_cases h0 : k < b.length
      · obtain ⟨b1, o1, rfl, hlt1, hx⟩ := hb1.at_ (by omega)
        have hxk := hx k h0
        have hok : k < o.length := by have := hol.out; omega
        have hoc := hO.cell hok
        have hfzk := hfz k
        have hst := Lib.hid (plus_step hok hinv.out)
        have hset := hO.set k (addf_lt (wd b k) (wd a k) q)
        have hcl := addc_le hwx hwy hq
        have hbel2 := hbel.setCell (p := ⟨w.heap.size, k, none⟩) (Nat.le_refl _) (.int .u32 (addf (wd b k) (wd a k) q : Nat))
        clear hx hb hb1
        by_cases h1 : k < a.length
        · obtain ⟨b2, o2, rfl, hlt2, hy⟩ := ha1.at_ (by omega)
          have hyk := hy k h1
          clear hy ha ha1
          go_wp2_with (go_at_call 85; refine (add32_any (wd b k) (wd a k) q _ hwx hwy hq).mono ?_; rintro e w' ⟨rfl, rfl⟩)
          go_roundw
          case rel => exact ⟨k + 1, _, _, by omega, by go_num, hcl, rfl, hset, by show _ = _; rw [List.length_set]; exact hol.out, hst, hbel2⟩
          case measure => simp [intOf]; omega
        · have hy0 := Lib.hid (wd_out (l := a) (k := k) (by omega))
          rw [hy0.out] at hst hset hcl hbel2
          clear ha ha1
          go_wp2_with (go_at_call 85; refine (add32_any (wd b k) 0 q _ hwx (by omega) hq).mono ?_; rintro e w' ⟨rfl, rfl⟩)
          go_roundw
          case rel => exact ⟨k + 1, _, _, by omega, by go_num, hcl, rfl, hset, by show _ = _; rw [List.length_set]; exact hol.out, hst, hbel2⟩
          case measure => simp [intOf]; omega
      · obtain rfl : k = b.length := by omega
        have hok : b.length < o.length := by have := hol.out; omega
        have hoc := hO.cell hok
        have hfzk := hfz b.length
        have hset := hO.set b.length (show q < 4294967296 by omega)
        have hbel2 := hbel.setCell (p := ⟨w.heap.size, b.length, none⟩) (Nat.le_refl _) (.int .u32 (q : Nat))
        have hfin := Lib.hid (plus_end hol.out (Nat.le_refl _) hba2 hinv.out)
        have hlen2 : Hid ((o.set b.length q).length = b.length + 1) := by show _ = _; rw [List.length_set]; exact hol.out
        go_wp2_with (go_at_call 57; refine (norm_any _ _ _ (o.set b.length q) _ hlen2.out.symm hset.rw).mono ?_; rintro e w' ⟨rfl, rfl⟩)
        go_ret
        have hn := hset.norm
        rw [hfin.out] at hn ⊢
        exact ⟨_, _, rfl, hn, hbel2⟩
  · have hba2 : b.length ≤ a.length := by omega
    go_enter Try.func75, Try.ntmps75
    go_wp2_with (at_make; refine wp_makeW _ rfl _ _ rfl .i64 .i64 _ _ (a.length + 1) rfl rfl (by omega) (by omega) (by omega) ?_; intro w1 hO1 hb1 hs1)
    go_loopw [6, 22] (fun cr i wr => ∃ (k q : Nat) (o : List Nat), k ≤ a.length ∧ i = .int .i64 (k : Int) ∧ q ≤ 1 ∧ cr = .int .u32 (q : Int) ∧ OW wr w.heap.size (some ⟨w.heap.size, 0, none⟩) (a.length + 1) o ∧ Hid (o.length = a.length + 1) ∧
        Hid (val (o.take k) + q * Wp k = val (a.take k) + val (b.take k)) ∧ Below w.heap.size w wr) (fun _ i _ => (a.length - intOf i).toNat)
    case atStart => exact ⟨0, 0, _, Nat.zero_le _, rfl, by omega, rfl, hO1, by show _ = _; simp, by show _ = _; simp [val], hb1⟩
    case round =>
      obtain ⟨k, q, o, hk, rfl, hq, rfl, hO, hol, hinv, hbel⟩ := hrel
      have hwx := wd_lt ba k
      have hwy := wd_lt bb k
      have ha1 := ha.below hbel
      have hb1 := hb.below hbel
      have hfz := hO.frozen
      by_cases h0 : k < a.length
      · obtain ⟨b1, o1, rfl, hlt1, hx⟩ := ha1.at_ (by omega)
        have hxk := hx k h0
        have hok : k < o.length := by have := hol.out; omega
        have hoc := hO.cell hok
        have hfzk := hfz k
        have hst := Lib.hid (plus_step hok hinv.out)
        have hset := hO.set k (addf_lt (wd a k) (wd b k) q)
        have hcl := addc_le hwx hwy hq
        have hbel2 := hbel.setCell (p := ⟨w.heap.size, k, none⟩) (Nat.le_refl _) (.int .u32 (addf (wd a k) (wd b k) q : Nat))
        clear hx ha ha1
        by_cases h1 : k < b.length
        · obtain ⟨b2, o2, rfl, hlt2, hy⟩ := hb1.at_ (by omega)
          have hyk := hy k h1
          clear hy hb hb1
          go_wp2_with (go_at_call 85; refine (add32_any (wd a k) (wd b k) q _ hwx hwy hq).mono ?_; rintro e w' ⟨rfl, rfl⟩)
          go_roundw
          case rel => exact ⟨k + 1, _, _, by omega, by go_num, hcl, rfl, hset, by show _ = _; rw [List.length_set]; exact hol.out, hst, hbel2⟩
          case measure => simp [intOf]; omega
        · have hy0 := Lib.hid (wd_out (l := b) (k := k) (by omega))
          rw [hy0.out] at hst hset hcl hbel2
          clear hb hb1
          go_wp2_with (go_at_call 85; refine (add32_any (wd a k) 0 q _ hwx (by omega) hq).mono ?_; rintro e w' ⟨rfl, rfl⟩)
          go_roundw
          case rel => exact ⟨k + 1, _, _, by omega, by go_num, hcl, rfl, hset, by show _ = _; rw [List.length_set]; exact hol.out, hst, hbel2⟩
          case measure => simp [intOf]; omega
      · obtain rfl : k = a.length := by omega
        have hok : a.length < o.length := by have := hol.out; omega
        have hoc := hO.cell hok
        have hfzk := hfz a.length
        have hset := hO.set a.length (show q < 4294967296 by omega)
        have hbel2 := hbel.setCell (p := ⟨w.heap.size, a.length, none⟩) (Nat.le_refl _) (.int .u32 (q : Nat))
        have hfin := Lib.hid (plus_end hol.out (Nat.le_refl _) hba2 hinv.out)
        have hlen2 : Hid ((o.set a.length q).length = a.length + 1) := by show _ = _; rw [List.length_set]; exact hol.out
        go_wp2_with (go_at_call 57; refine (norm_any _ _ _ (o.set a.length q) _ hlen2.out.symm hset.rw).mono ?_; rintro e w' ⟨rfl, rfl⟩)
        go_ret
        have hn := hset.norm
        rw [hfin.out] at hn ⊢
        exact ⟨_, _, rfl, hn, hbel2⟩

set_option maxHeartbeats 1000000 in
theorem less_any (A D : Option Addr) (c d n m : Nat) (a b : List Nat) (w : World) (hn : n = a.length) (hm : m = b.length) (ha : RW w w.heap.size A c a) (hb : RW w w.heap.size D d b) (hba2 : b.length ≤ a.length) (hle : val b ≤ val a) :
    Calls Try.prog 28 #[.slice A n c, .slice D m d] w (RetW w (val a - val b)) := by
  subst hn hm
  have ba := ha.b32
  have bb := hb.b32
  have hla := ha.big
  go_enter Try.func28, Try.ntmps28
  go_wp2_with (at_make; refine wp_makeW _ rfl _ _ rfl .i64 .i64 _ _ a.length rfl rfl (by omega) (by omega) (by omega) ?_; intro w1 hO1 hb1 hs1)
  go_loopw [6, 14] (fun cr i wr => ∃ (k q : Nat) (o : List Nat), k ≤ a.length ∧ i = .int .i64 (k : Int) ∧ q ≤ 1 ∧ cr = .int .u32 (q : Int) ∧ OW wr w.heap.size (some ⟨w.heap.size, 0, none⟩) a.length o ∧ Hid (o.length = a.length) ∧
      Hid (val (o.take k) + val (b.take k) = val (a.take k) + q * Wp k) ∧ Below w.heap.size w wr) (fun _ i _ => (a.length - intOf i).toNat)
  case atStart => exact ⟨0, 0, _, Nat.zero_le _, rfl, by omega, rfl, hO1, by show _ = _; simp, by show _ = _; simp [val], hb1⟩
  case round =>
    obtain ⟨k, q, o, hk, rfl, hq, rfl, hO, hol, hinv, hbel⟩ := hrel
    have hwx := wd_lt ba k
    have hwy := wd_lt bb k
    have ha1 := ha.below hbel
    have hb1 := hb.below hbel
    have hfz := hO.frozen
    by_cases h0 : k < a.length
    · obtain ⟨b1, o1, rfl, hlt1, hx⟩ := ha1.at_ (by omega)
      have hxk := hx k h0
      have hok : k < o.length := by have := hol.out; omega
      have hoc := hO.cell hok
      have hfzk := hfz k
      have hst := Lib.hid (less_step ba bb hq hok hinv.out)
      have hset := hO.set k (sdf_lt (wd a k) (wd b k) q)
      have hcl := bor_le (wd a k) (wd b k) q
      have hbel2 := hbel.setCell (p := ⟨w.heap.size, k, none⟩) (Nat.le_refl _) (.int .u32 (sdf32 (wd a k) (wd b k) q : Nat))
      clear hx ha ha1
      by_cases h1 : k < b.length
      · obtain ⟨b2, o2, rfl, hlt2, hy⟩ := hb1.at_ (by omega)
        have hyk := hy k h1
        clear hy hb hb1
        go_wp2_with (go_at_call 56; refine (sub32_any (wd a k) (wd b k) q _ hwx hwy hq).mono ?_; rintro e w' ⟨rfl, rfl⟩)
        go_roundw
        case rel => exact ⟨k + 1, _, _, by omega, by go_num, hcl, rfl, hset, by show _ = _; rw [List.length_set]; exact hol.out, hst, hbel2⟩
        case measure => simp [intOf]; omega
      · have hy0 := Lib.hid (wd_out (l := b) (k := k) (by omega))
        rw [hy0.out] at hst hset hcl hbel2
        clear hb hb1
        go_wp2_with (go_at_call 56; refine (sub32_any (wd a k) 0 q _ hwx (by omega) hq).mono ?_; rintro e w' ⟨rfl, rfl⟩)
        go_roundw
        case rel => exact ⟨k + 1, _, _, by omega, by go_num, hcl, rfl, hset, by show _ = _; rw [List.length_set]; exact hol.out, hst, hbel2⟩
        case measure => simp [intOf]; omega
    · obtain rfl : k = a.length := by omega
      have hfin := Lib.hid (less_end hol.out hO.b32 hba2 hle hinv.out)
      go_wp2_with (go_at_call 57; refine (norm_any _ _ _ o _ hol.out.symm hO.rw).mono ?_; rintro e w' ⟨rfl, rfl⟩)
      go_ret
      have hn := hO.norm
      rw [hfin.out] at hn ⊢
      exact ⟨_, _, rfl, hn, hbel⟩
end Go.Proofs.Ytabcnpcfknlmlaa
