/- Place, Twice, SameTexts of the reference; slices.Equal of strings. -/
import Derived.Test.YtmgblmdilepkpaaEnA
namespace Go.Proofs.Ytmgblmdilepkpaa
open Go.RowKit

theorem ret_bool' {b b' : Bool} (h : b = b') : Ending.returned (.bool b) = Ending.returned (.bool b') := by rw [h]

set_option maxHeartbeats 1000000 in
theorem rplace_any (A : Option Addr) (c n : Nat) (l : List Str) (x : Str) (w : World) (hn : n = l.length) (h : RS w w.heap.size A c l) :
    Calls Try.prog 15 #[.slice A n c, .string x] w fun e w' => e = .returned (.int .i64 (plc (ks l) x.toList)) ∧ w = w' := by
  subst hn
  have hbig : l.length ≤ 140737488351232 := h.big
  go_enter Try.func15, Try.ntmps15
  go_wp2
  go_loop [5] (fun n => ∃ k : Nat, k ≤ l.length ∧ n = .int .i64 k ∧ Hid (Nf (ks l) x.toList k)) (fun i => l.length - (intOf i).toNat)
  case atStart => exact ⟨0, Nat.zero_le _, by go_num, Nf_zero _ _⟩
  case round =>
    obtain ⟨k, hk, rfl, hb⟩ := hrel
    by_cases h0 : k < l.length
    · obtain ⟨b1, o1, rfl, hlt1, hx⟩ := h.at_ (by omega)
      obtain ⟨y, hy⟩ : ∃ y, l[k]? = some y := ⟨_, List.getElem?_eq_getElem h0⟩
      have hxk := hx k y hy
      have HY := Lib.hid (ks_get hy)
      clear hx h hy
      cases he : (y.toList == x.toList) with
      | true =>
        have hres : Hid (plc (ks l) x.toList = k) := plc_found hb.out HY.out (by rw [beq_iff_eq] at *; exact he.symm)
        go_wp2
        go_ret
        exact ⟨by rw [hres.out]; rfl, rfl⟩
      | false =>
        have hst : Hid (Nf (ks l) x.toList (k + 1)) := Nf_succ hb.out HY.out (by rw [beq_eq_false_iff_ne] at *; exact fun h => he h.symm)
        go_wp2
        go_round
        case rel => exact ⟨k + 1, by omega, by go_num, hst⟩
        case measure => simp [intOf]; omega
    · have hres : Hid (plc (ks l) x.toList = -1) := plc_none hb.out (by rw [ks_length]; omega)
      go_wp2
      go_ret
      exact ⟨by rw [hres.out]; rfl, rfl⟩

set_option maxHeartbeats 1000000 in
theorem rtwice_any (A : Option Addr) (c n : Nat) (l : List Str) (w : World) (hn : n = l.length) (h : RS w w.heap.size A c l) :
    Calls Try.prog 13 #[.slice A n c] w fun e w' => e = .returned (.bool (twB (ks l))) ∧ w = w' := by
  subst hn
  have hbig : l.length ≤ 140737488351232 := h.big
  go_enter Try.func13, Try.ntmps13
  go_wp2
  go_loop [3] (fun n => ∃ k : Nat, k ≤ l.length ∧ n = .int .i64 k ∧ Hid (Nd (ks l) k)) (fun i => l.length - (intOf i).toNat)
  case atStart => exact ⟨0, Nat.zero_le _, by go_num, Nd_zero _⟩
  case round =>
    obtain ⟨k, hk, rfl, hb⟩ := hrel
    by_cases h0 : k < l.length
    · have hct := fun y => rplace_any A c _ l y w rfl h
      obtain ⟨b1, o1, rfl, hlt1, hx⟩ := h.at_ (by omega)
      obtain ⟨y, hy⟩ : ∃ y, l[k]? = some y := ⟨_, List.getElem?_eq_getElem h0⟩
      have hxk := hx k y hy
      have HY := Lib.hid (ks_get hy)
      clear hx h hy
      replace hct := hct y
      by_cases hm : y.toList ∈ (ks l).take k
      · have hlt : plc (ks l) y.toList < k := (plc_ahead HY.out).2 hm
        generalize plc (ks l) y.toList = p at *
        have hres := Lib.hid (twB_yes HY.out hm)
        clear hm
        go_wp2_with fail
        refine hct.mono ?_; rintro e w' ⟨rfl, rfl⟩
        go_wp2_with fail
        go_ret
        exact ⟨by rw [hres.out]; rfl, rfl⟩
      · have hlt : ¬ plc (ks l) y.toList < k := fun h => hm ((plc_ahead HY.out).1 h)
        generalize plc (ks l) y.toList = p at *
        have hst : Hid (Nd (ks l) (k + 1)) := Nd_succ hb.out HY.out hm
        clear hm
        go_wp2_with fail
        refine hct.mono ?_; rintro e w' ⟨rfl, rfl⟩
        go_wp2_with fail
        go_round
        case rel => exact ⟨k + 1, by omega, by go_num, hst⟩
        case measure => simp [intOf]; omega
    · have hres : Hid (twB (ks l) = false) := twB_no hb.out (by rw [ks_length]; omega)
      go_wp2
      go_ret
      exact ⟨by rw [hres.out]; rfl, rfl⟩

theorem same_succ {a b : List K} {k : Nat} {x y : K} (h : a.take k = b.take k) (hx : a[k]? = some x) (hy : b[k]? = some y) (he : (x == y) = true) : a.take (k + 1) = b.take (k + 1) := by
  rw [take_succ_of hx, take_succ_of hy, h]
  have : x = y := by simpa using he
  rw [this]
theorem ne_of_at {a b : List K} {k : Nat} {x y : K} (hx : a[k]? = some x) (hy : b[k]? = some y) (he : (x == y) = false) : ¬ a = b := by
  rintro rfl
  rw [hx] at hy
  cases hy
  simp at he
theorem drw' {w : World} (a b : Nat) : ∃ q, (w.drewN a).drewN b = w.drewN q := ⟨_, World.drewN_drewN _ _ _⟩

set_option maxHeartbeats 1000000 in
theorem sametexts_any (A D : Option Addr) (c d n m : Nat) (a b : List Str) (w : World) (hn : n = a.length) (hm : m = b.length) (ha : RS w w.heap.size A c a) (hb : RS w w.heap.size D d b) :
    Calls Try.prog 16 #[.slice A n c, .slice D m d] w fun e w' => e = .returned (.bool (decide (ks a = ks b))) ∧ ∃ q, w' = w.drewN q := by
  subst hn hm
  have hba : a.length ≤ 140737488351232 := ha.big
  have hbb : b.length ≤ 140737488351232 := hb.big
  by_cases hlen : a.length = b.length
  · have hl1 : ((a.length : Int) != (b.length : Int)) = false := by simp; omega
    have HL := Lib.hid hlen
    have hlt : ¬ a.length < b.length := by omega
    have hgt : ¬ b.length < a.length := by omega
    clear hlen
    go_enter Try.func16, Try.ntmps16
    go_wp2
    go_loopw [5] (fun i wr => ∃ k : Nat, k ≤ a.length ∧ i = .int .i64 (k : Int) ∧ Hid ((ks a).take k = (ks b).take k) ∧ ∃ q, wr = w.drewN q) (fun i _ => (a.length - intOf i).toNat)
    case atStart => exact ⟨0, Nat.zero_le _, rfl, rfl, 0, rfl⟩
    case round =>
      obtain ⟨k, hk, rfl, hk2, q, rfl⟩ := hrel
      by_cases h0 : k < a.length
      · obtain ⟨b1, o1, rfl, _, hx⟩ := ha.at_ (by omega)
        obtain ⟨b2, o2, rfl, _, hy⟩ := hb.at_ (by omega)
        obtain ⟨x, hgx⟩ : ∃ y, a[k]? = some y := ⟨_, List.getElem?_eq_getElem h0⟩
        obtain ⟨y, hgy⟩ : ∃ y, b[k]? = some y := ⟨_, List.getElem?_eq_getElem (show k < b.length by omega)⟩
        have hxk := hx k x hgx
        have hyk := hy k y hgy
        have HX := Lib.hid (ks_get hgx)
        have HY := Lib.hid (ks_get hgy)
        clear ha hb hx hy hgx hgy
        cases h1 : (x.toList == y.toList) with
        | true =>
          have HR := Lib.hid (same_succ hk2.out HX.out HY.out h1)
          go_wp2
          go_quiet (fail)
          go_wp2
          go_roundw
          case rel => exact ⟨k + 1, by omega, by go_num, HR, _, rfl⟩
          case measure => simp [intOf]; omega
        | false =>
          have HN := Lib.hid (ne_of_at HX.out HY.out h1)
          go_wp2
          go_quiet (fail)
          go_wp2
          go_ret
          exact ⟨ret_bool' (by rw [decide_eq_false HN.out]), drw' _ _⟩
      · obtain rfl : k = a.length := by omega
        go_wp2
        go_ret
        refine ⟨?_, q, rfl⟩
        have h2 := hk2.out
        rw [List.take_of_length_le (by rw [ks_length]; exact Nat.le_refl _), List.take_of_length_le (by rw [ks_length, HL.out]; exact Nat.le_refl _)] at h2
        exact ret_bool' (by rw [decide_eq_true h2])
  · have hl1 : ((a.length : Int) != (b.length : Int)) = true := by simp; omega
    go_enter Try.func16, Try.ntmps16
    go_wp2
    go_ret
    exact ⟨ret_bool' (by rw [decide_eq_false (fun e => hlen (by rw [← ks_length a, e, ks_length]))]), 0, rfl⟩
set_option maxHeartbeats 1000000 in
theorem equal_any (A D : Option Addr) (c d n m : Nat) (a b : List Str) (w : World) (hn : n = a.length) (hm : m = b.length) (ha : RS w w.heap.size A c a) (hb : RS w w.heap.size D d b) :
    Calls Try.prog 41 #[.slice A n c, .slice D m d] w fun e w' => e = .returned (.bool (decide (ks a = ks b))) ∧ ∃ q, w' = w.drewN q := by
  subst hn hm
  have hba : a.length ≤ 140737488351232 := ha.big
  have hbb : b.length ≤ 140737488351232 := hb.big
  by_cases hlen : a.length = b.length
  · have hl1 : ((a.length : Int) != (b.length : Int)) = false := by simp; omega
    have HL := Lib.hid hlen
    have hlt : ¬ a.length < b.length := by omega
    have hgt : ¬ b.length < a.length := by omega
    clear hlen
    go_enter Try.func41, Try.ntmps41
    go_wp2
    go_loopw [13] (fun i wr => ∃ k : Nat, k ≤ a.length ∧ i = .int .i64 (k : Int) ∧ Hid ((ks a).take k = (ks b).take k) ∧ ∃ q, wr = w.drewN q) (fun i _ => (a.length - intOf i).toNat)
    case atStart => exact ⟨0, Nat.zero_le _, rfl, rfl, 0, rfl⟩
    case round =>
      obtain ⟨k, hk, rfl, hk2, q, rfl⟩ := hrel
      by_cases h0 : k < a.length
      · obtain ⟨b1, o1, rfl, _, hx⟩ := ha.at_ (by omega)
        obtain ⟨b2, o2, rfl, _, hy⟩ := hb.at_ (by omega)
        obtain ⟨x, hgx⟩ : ∃ y, a[k]? = some y := ⟨_, List.getElem?_eq_getElem h0⟩
        obtain ⟨y, hgy⟩ : ∃ y, b[k]? = some y := ⟨_, List.getElem?_eq_getElem (show k < b.length by omega)⟩
        have hxk := hx k x hgx
        have hyk := hy k y hgy
        have HX := Lib.hid (ks_get hgx)
        have HY := Lib.hid (ks_get hgy)
        clear ha hb hx hy hgx hgy
        cases h1 : (x.toList == y.toList) with
        | true =>
          have HR := Lib.hid (same_succ hk2.out HX.out HY.out h1)
          go_wp2
          go_quiet (fail)
          go_wp2
          go_roundw
          case rel => exact ⟨k + 1, by omega, by go_num, HR, _, rfl⟩
          case measure => simp [intOf]; omega
        | false =>
          have HN := Lib.hid (ne_of_at HX.out HY.out h1)
          go_wp2
          go_quiet (fail)
          go_wp2
          go_ret
          exact ⟨ret_bool' (by rw [decide_eq_false HN.out]), drw' _ _⟩
      · obtain rfl : k = a.length := by omega
        go_wp2
        go_ret
        refine ⟨?_, q, rfl⟩
        have h2 := hk2.out
        rw [List.take_of_length_le (by rw [ks_length]; exact Nat.le_refl _), List.take_of_length_le (by rw [ks_length, HL.out]; exact Nat.le_refl _)] at h2
        exact ret_bool' (by rw [decide_eq_true h2])
  · have hl1 : ((a.length : Int) != (b.length : Int)) = true := by simp; omega
    go_enter Try.func41, Try.ntmps41
    go_wp2
    go_ret
    exact ⟨ret_bool' (by rw [decide_eq_false (fun e => hlen (by rw [← ks_length a, e, ks_length]))]), 0, rfl⟩
end Go.Proofs.Ytmgblmdilepkpaa
