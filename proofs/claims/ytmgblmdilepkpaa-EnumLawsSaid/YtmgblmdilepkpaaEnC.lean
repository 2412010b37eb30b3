/- Sound of both; has of both. -/
import Derived.Test.YtmgblmdilepkpaaEnB
namespace Go.Proofs.Ytmgblmdilepkpaa
open Go.RowKit

def sdB (u : List K) (i : List Bool) : Bool := decide (u.length ≤ 64) && (decide (i.length = u.length) && !twB u)
theorem sdB_len {u : List K} {i : List Bool} (h : sdB u i = true) : u.length ≤ 64 ∧ i.length = u.length ∧ twB u = false := by
  simp only [sdB, Bool.and_eq_true, decide_eq_true_eq, Bool.not_eq_true'] at h
  exact ⟨h.1, h.2.1, h.2.2⟩
theorem bt {w w1 w2 : World} (h1 : Below w.heap.size w w1) (h2 : Below w1.heap.size w1 w2) : Below w.heap.size w w2 := h1.trans (h2.mono h1.size)
theorem st {α : Type} {f : α → Value} {w w' : World} {A : Option Addr} {c : Nat} {l : List α} (h : RL f w w.heap.size A c l) (b : Below w.heap.size w w') : RL f w' w'.heap.size A c l := h.step b b.size
theorem bal (w : World) (o : Obj) : Below w.heap.size w (w.alloc o) := (Below.refl _ _).alloc (Nat.le_refl _) _

set_option maxHeartbeats 1000000 in
theorem sound_any (A D : Option Addr) (c d : Nat) (u : List Str) (i : List Bool) (w : World) (hu : RS w w.heap.size A c u) (hi : RBo w w.heap.size D d i) :
    Calls Try.prog 12 #[.agg #[.slice A u.length c, .slice D i.length d]] w fun e w' => e = .returned (.bool (sdB (ks u) i)) ∧ Below w.heap.size w w' := by
  have hbu : u.length ≤ 140737488351232 := hu.big
  have hbi : i.length ≤ 140737488351232 := hi.big
  have hb := bal w (.cells #[.slice A u.length c, .slice D i.length d] 25)
  have htw := twice_any A c _ u _ rfl (st hu hb)
  unfold sdB
  rw [ks_length]
  clear hu hi
  by_cases h1 : u.length ≤ 64
  · rw [decide_eq_true h1]
    by_cases h2 : i.length = u.length
    · rw [decide_eq_true h2]
      have t2 : ((i.length : Int) == (u.length : Int)) = true := by rw [h2]; simp
      generalize twB (ks u) = tw at *
      have H2 := Lib.hid h2
      clear h2
      go_enter Try.func12, Try.ntmps12
      go_wp2_with fail
      refine htw.mono ?_; rintro e w' ⟨rfl, rfl⟩
      go_wp2_with fail
      go_ret
      exact ⟨ret_bool' (by simp), hb⟩
    · rw [decide_eq_false h2]
      have t2 : ((i.length : Int) == (u.length : Int)) = false := beq_eq_false_iff_ne.2 (by omega)
      clear htw
      go_enter Try.func12, Try.ntmps12
      go_wp2_with fail
      go_ret
      exact ⟨ret_bool' (by simp), hb⟩
  · rw [decide_eq_false h1]
    clear htw
    go_enter Try.func12, Try.ntmps12
    go_wp2_with fail
    go_ret
    exact ⟨ret_bool' (by simp), hb⟩
set_option maxHeartbeats 1000000 in
theorem rsound_any (A D : Option Addr) (c d n m : Nat) (u : List Str) (i : List Bool) (w : World) (hn : n = u.length) (hm : m = i.length) (hu : RS w w.heap.size A c u) (hi : RBo w w.heap.size D d i) :
    Calls Try.prog 6 #[.slice A n c, .slice D m d] w fun e w' => e = .returned (.bool (sdB (ks u) i)) ∧ w = w' := by
  subst hn hm
  have hbu : u.length ≤ 140737488351232 := hu.big
  have hbi : i.length ≤ 140737488351232 := hi.big
  have htw := rtwice_any A c _ u w rfl hu
  unfold sdB
  rw [ks_length]
  clear hu hi
  by_cases h1 : u.length ≤ 64
  · rw [decide_eq_true h1]
    by_cases h2 : i.length = u.length
    · rw [decide_eq_true h2]
      have t2 : ((i.length : Int) == (u.length : Int)) = true := by rw [h2]; simp
      generalize twB (ks u) = tw at *
      have H2 := Lib.hid h2
      clear h2
      go_enter Try.func6, Try.ntmps6
      go_wp2_with fail
      refine htw.mono ?_; rintro e w' ⟨rfl, rfl⟩
      go_wp2_with fail
      go_ret
      exact ⟨ret_bool' (by simp), rfl⟩
    · rw [decide_eq_false h2]
      have t2 : ((i.length : Int) == (u.length : Int)) = false := beq_eq_false_iff_ne.2 (by omega)
      clear htw
      go_enter Try.func6, Try.ntmps6
      go_wp2_with fail
      go_ret
      exact ⟨ret_bool' (by simp), rfl⟩
  · rw [decide_eq_false h1]
    clear htw
    go_enter Try.func6, Try.ntmps6
    go_wp2_with fail
    go_ret
    exact ⟨ret_bool' (by simp), rfl⟩

/-- is a key in a set? -/
def hasB (u : List K) (i : List Bool) (x : K) : Bool := decide (x ∈ u) && i.getD (u.idxOf x) false
theorem hasB_no {u : List K} {i : List Bool} {x : K} (h : plc u x < 0) : hasB u i x = false := by unfold hasB; rw [decide_eq_false (plc_neg.1 h)]; rfl
theorem hasB_at {u : List K} {i : List Bool} {x : K} {k : Nat} (h : plc u x = (k : Int)) : hasB u i x = i.getD k false := by
  have hm : x ∈ u := plc_pos.1 (by omega)
  have h2 : plc u x = (u.idxOf x : Int) := by unfold plc; rw [if_pos hm]
  unfold hasB
  rw [decide_eq_true hm, show u.idxOf x = k by omega]; rfl
set_option maxHeartbeats 1000000 in
theorem has_any (A D : Option Addr) (c d : Nat) (u : List Str) (i : List Bool) (x : Str) (w : World) (hl : i.length = u.length) (hu : RS w w.heap.size A c u) (hi : RBo w w.heap.size D d i) :
    Calls Try.prog 38 #[.agg #[.slice A u.length c, .slice D i.length d], .string x] w fun e w' => e = .returned (.bool (hasB (ks u) i x.toList)) ∧ Below w.heap.size w w' := by
  have hbu : u.length ≤ 140737488351232 := hu.big
  have hbi : i.length ≤ 140737488351232 := hi.big
  have hb := bal w (.cells #[.slice A u.length c, .slice D i.length d] 25)
  have hix := index_any A c _ u x _ rfl (st hu hb)
  by_cases h0 : plc (ks u) x.toList < 0
  · have hres := Lib.hid (hasB_no (i := i) h0)
    generalize plc (ks u) x.toList = p at *
    clear hu hi hl
    go_enter Try.func38, Try.ntmps38
    go_wp2_with fail
    refine hix.mono ?_; rintro e w' ⟨rfl, rfl⟩
    go_wp2_with fail
    go_ret
    exact ⟨ret_bool' (by rw [hres.out]), hb⟩
  · have hlt := plc_lt (ks u) x.toList
    rw [ks_length] at hlt
    obtain ⟨k, hk⟩ := Int.eq_ofNat_of_zero_le (show 0 ≤ plc (ks u) x.toList by omega)
    have hres := Lib.hid (hasB_at (i := i) hk)
    rw [hk] at hix hlt h0
    have hki : k < i.length := by omega
    obtain ⟨y, hy⟩ : ∃ y, i[k]? = some y := ⟨_, List.getElem?_eq_getElem hki⟩
    obtain ⟨b1, o1, rfl, hlt1, hx⟩ := (st hi hb).at_ (by omega)
    have hc := hx k y hy
    change _ = some (Value.bool y) at hc
    have hg : Hid (i.getD k false = y) := by show _ = _; rw [List.getD_eq_getElem?_getD, hy]; rfl
    have HL := Lib.hid hl
    clear hx hu hi hk hl hy hlt h0
    go_enter Try.func38, Try.ntmps38
    go_wp2_with fail
    refine hix.mono ?_; rintro e w' ⟨rfl, rfl⟩
    go_wp2_with fail
    go_ret
    exact ⟨ret_bool' (by rw [hres.out, hg.out]), hb⟩
set_option maxHeartbeats 1000000 in
theorem rhas_any (A D : Option Addr) (c d n m : Nat) (u : List Str) (i : List Bool) (x : Str) (w : World) (hn : n = u.length) (hm : m = i.length) (hl : i.length = u.length) (hu : RS w w.heap.size A c u) (hi : RBo w w.heap.size D d i) :
    Calls Try.prog 26 #[.slice A n c, .slice D m d, .string x] w fun e w' => e = .returned (.bool (hasB (ks u) i x.toList)) ∧ w = w' := by
  subst hn hm
  have hbu : u.length ≤ 140737488351232 := hu.big
  have hbi : i.length ≤ 140737488351232 := hi.big
  have hix := rplace_any A c _ u x w rfl hu
  by_cases h0 : plc (ks u) x.toList < 0
  · have hres := Lib.hid (hasB_no (i := i) h0)
    generalize plc (ks u) x.toList = p at *
    clear hu hi hl
    go_enter Try.func26, Try.ntmps26
    go_wp2_with fail
    refine hix.mono ?_; rintro e w' ⟨rfl, rfl⟩
    go_wp2_with fail
    go_ret
    exact ⟨ret_bool' (by rw [hres.out]), rfl⟩
  · have hlt := plc_lt (ks u) x.toList
    rw [ks_length] at hlt
    obtain ⟨k, hk⟩ := Int.eq_ofNat_of_zero_le (show 0 ≤ plc (ks u) x.toList by omega)
    have hres := Lib.hid (hasB_at (i := i) hk)
    rw [hk] at hix hlt h0
    have hki : k < i.length := by omega
    obtain ⟨y, hy⟩ : ∃ y, i[k]? = some y := ⟨_, List.getElem?_eq_getElem hki⟩
    obtain ⟨b1, o1, rfl, hlt1, hx⟩ := hi.at_ (by omega)
    have hc := hx k y hy
    change _ = some (Value.bool y) at hc
    have hg : Hid (i.getD k false = y) := by show _ = _; rw [List.getD_eq_getElem?_getD, hy]; rfl
    have HL := Lib.hid hl
    clear hx hu hi hk hl hy hlt h0
    go_enter Try.func26, Try.ntmps26
    go_wp2_with fail
    refine hix.mono ?_; rintro e w' ⟨rfl, rfl⟩
    go_wp2_with fail
    go_ret
    exact ⟨ret_bool' (by rw [hres.out, hg.out]), rfl⟩
end Go.Proofs.Ytmgblmdilepkpaa
