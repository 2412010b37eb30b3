/- Lists of strings and of bools: reading, owning; slices.Index, Contains, Clone of strings; twice. -/
import Derived.Test.YtmgblmdilepkpaaProg
import Derived.Test.YtmgblmdilepkpaaMemS
import Derived.Test.YtmgblmdilepkpaaEnP
namespace Go.Proofs.Ytmgblmdilepkpaa
open Go.RowKit

abbrev Str := ByteArray
def fs (s : Str) : Value := .string s
def fb (b : Bool) : Value := .bool b
abbrev RS (w : World) (B : Nat) (A : Option Addr) (c : Nat) (l : List Str) : Prop := RL fs w B A c l
abbrev OS (w : World) (base : Nat) (A : Option Addr) (c : Nat) (l : List Str) : Prop := OL 9 fs w base A c l
abbrev RBo (w : World) (B : Nat) (A : Option Addr) (c : Nat) (l : List Bool) : Prop := RL fb w B A c l
abbrev OBo (w : World) (base : Nat) (A : Option Addr) (c : Nat) (l : List Bool) : Prop := OL 4 fb w base A c l
theorem RS.at_ {w : World} {B : Nat} {A : Option Addr} {c : Nat} {l : List Str} (h : RS w B A c l) (hn : 0 < l.length) : ∃ b off, A = some ⟨b, off, none⟩ ∧ b < B ∧ ∀ k y, l[k]? = some y → w.cell? ⟨b, off + k, none⟩ = some (.string y) := RL.at_ h hn
theorem RBo.at_ {w : World} {B : Nat} {A : Option Addr} {c : Nat} {l : List Bool} (h : RBo w B A c l) (hn : 0 < l.length) : ∃ b off, A = some ⟨b, off, none⟩ ∧ b < B ∧ ∀ k y, l[k]? = some y → w.cell? ⟨b, off + k, none⟩ = some (.bool y) := RL.at_ h hn

set_option maxHeartbeats 1000000 in
theorem index_any (A : Option Addr) (c n : Nat) (l : List Str) (x : Str) (w : World) (hn : n = l.length) (h : RS w w.heap.size A c l) :
    Calls Try.prog 32 #[.slice A n c, .string x] w fun e w' => e = .returned (.int .i64 (plc (ks l) x.toList)) ∧ w = w' := by
  subst hn
  have hbig : l.length ≤ 140737488351232 := h.big
  have hplt := plc_lt (ks l) x.toList
  have hple := plc_le (ks l) x.toList
  rw [ks_length] at hplt
  go_enter Try.func32, Try.ntmps32
  go_wp2
  go_loop [8] (fun n => ∃ k : Nat, k ≤ l.length ∧ n = .int .i64 k ∧ Hid (Nf (ks l) x.toList k)) (fun i => l.length - (intOf i).toNat)
  case atStart => exact ⟨0, Nat.zero_le _, by go_num, Nf_zero _ _⟩
  case round =>
    obtain ⟨k, hk, rfl, hb⟩ := hrel
    by_cases h0 : k < l.length
    · obtain ⟨b1, o1, rfl, hlt1, hx⟩ := h.at_ (by omega)
      obtain ⟨y, hy⟩ : ∃ y, l[k]? = some y := ⟨_, List.getElem?_eq_getElem h0⟩
      have hxk := hx k y hy
      have HY := Lib.hid (ks_get hy)
      clear hx h hy
      cases he : (x.toList == y.toList) with
      | true =>
        have hres : Hid (plc (ks l) x.toList = k) := plc_found hb.out HY.out he
        clear hplt hple
        go_wp2
        go_ret
        exact ⟨by rw [hres.out]; rfl, rfl⟩
      | false =>
        have hst : Hid (Nf (ks l) x.toList (k + 1)) := Nf_succ hb.out HY.out he
        go_wp2
        go_round
        case rel => exact ⟨k + 1, by omega, by go_num, hst⟩
        case measure => simp [intOf]; omega
    · have hres : Hid (plc (ks l) x.toList = -1) := plc_none hb.out (by rw [ks_length]; omega)
      clear hplt hple
      go_wp2
      go_ret
      exact ⟨by rw [hres.out]; rfl, rfl⟩

theorem contains_any (A : Option Addr) (c n : Nat) (l : List Str) (x : Str) (w : World) (hn : n = l.length) (h : RS w w.heap.size A c l) :
    Calls Try.prog 30 #[.slice A n c, .string x] w fun e w' => e = .returned (.bool (decide (x.toList ∈ ks l))) ∧ w = w' := by
  subst hn
  have h1 := index_any A c _ l x w rfl h
  have hd : decide (0 ≤ plc (ks l) x.toList) = decide (x.toList ∈ ks l) := by rw [decide_eq_decide]; exact plc_pos
  rw [← hd]
  clear hd h
  generalize plc (ks l) x.toList = p at *
  go_enter Try.func30, Try.ntmps30
  go_wp2_with fail
  refine h1.mono ?_; rintro e w' ⟨rfl, rfl⟩
  go_wp2_with fail
  go_ret
  exact ⟨rfl, rfl⟩

set_option maxHeartbeats 1000000 in
theorem twice_any (A : Option Addr) (c n : Nat) (l : List Str) (w : World) (hn : n = l.length) (h : RS w w.heap.size A c l) :
    Calls Try.prog 27 #[.slice A n c] w fun e w' => e = .returned (.bool (twB (ks l))) ∧ w = w' := by
  subst hn
  have hbig : l.length ≤ 140737488351232 := h.big
  have hlc := h.lc
  go_enter Try.func27, Try.ntmps27
  go_wp2
  go_loop [7] (fun n => ∃ k : Nat, k ≤ l.length ∧ n = .int .i64 k ∧ Hid (Nd (ks l) k)) (fun i => l.length - (intOf i).toNat)
  case atStart => exact ⟨0, Nat.zero_le _, by go_num, Nd_zero _⟩
  case round =>
    obtain ⟨k, hk, rfl, hb⟩ := hrel
    by_cases h0 : k < l.length
    · have hct := fun y => contains_any A c k (l.take k) y w (by rw [List.length_take]; omega) (h.take k)
      obtain ⟨b1, o1, rfl, hlt1, hx⟩ := h.at_ (by omega)
      obtain ⟨y, hy⟩ : ∃ y, l[k]? = some y := ⟨_, List.getElem?_eq_getElem h0⟩
      have hxk := hx k y hy
      have HY := Lib.hid (ks_get hy)
      have hkc : k ≤ c := by omega
      clear hx h hy
      replace hct := hct y
      rw [ks_take] at hct
      by_cases hm : y.toList ∈ (ks l).take k
      · rw [decide_eq_true hm] at hct
        have hres := Lib.hid (twB_yes HY.out hm)
        clear hm
        go_wp2_with fail
        refine hct.mono ?_; rintro e w' ⟨rfl, rfl⟩
        go_wp2_with fail
        go_ret
        exact ⟨by rw [hres.out]; rfl, rfl⟩
      · rw [decide_eq_false hm] at hct
        have hst : Hid (Nd (ks l) (k + 1)) := Nd_succ hb.out HY.out hm
        clear hm
        go_wp2_with fail
        refine hct.mono ?_; rintro e w' ⟨rfl, rfl⟩
        go_wp2_with fail
        go_round
        case rel => exact ⟨k + 1, by omega, by go_num, hst⟩
        case measure => simp [intOf]; omega
    · have hres : Hid (twB (ks l) = false) := twB_no hb.out (by rw [ks_length]; omega)
      go_wp2
      go_ret
      exact ⟨by rw [hres.out]; rfl, rfl⟩
end Go.Proofs.Ytmgblmdilepkpaa
