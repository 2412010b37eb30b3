/- Walks: List, Index; the law's members. -/
import Derived.Test.YtmgblmdilepkpaaEnE
namespace Go.Proofs.Ytmgblmdilepkpaa
open Go.RowKit

/-- what a row of bools takes of a list -/
def msel {α : Type} : List α → List Bool → List α
  | x :: u, b :: i => if b then x :: msel u i else msel u i
  | _, _ => []
theorem msel_step {α : Type} {k : Nat} : ∀ {u : List α} {i : List Bool} {x : α} {b : Bool}, u[k]? = some x → i[k]? = some b → msel (u.take (k + 1)) (i.take (k + 1)) = msel (u.take k) (i.take k) ++ (if b then [x] else []) := by
  induction k with
  | zero =>
    intro u i x b hx hb
    match u, i, hx, hb with
    | x' :: u, b' :: i, hx, hb =>
      simp at hx hb
      subst hx hb
      simp [msel]
  | succ k ih =>
    intro u i x b hx hb
    match u, i, hx, hb with
    | x' :: u, b' :: i, hx, hb =>
      simp only [List.getElem?_cons_succ] at hx hb
      have h := ih hx hb
      simp only [List.take_succ_cons, msel]
      rw [h]
      split <;> simp
theorem msel_len {α : Type} : ∀ (u : List α) (i : List Bool), (msel u i).length ≤ u.length
  | x :: u, b :: i => by
    have := msel_len u i
    simp only [msel]
    split <;> simp <;> omega
  | [], _ => by simp [msel]
  | _ :: _, [] => by simp [msel]
theorem ks_msel : ∀ (u : List ByteArray) (i : List Bool), ks (msel u i) = msel (ks u) i
  | x :: u, b :: i => by
    have := ks_msel u i
    simp only [msel, ks, List.map_cons] at *
    split
    · simp only [List.map_cons, this]
    · exact this
  | [], _ => by simp [msel, ks]
  | _ :: _, [] => by simp [msel, ks]
theorem msel_end {α : Type} {u : List α} {i : List Bool} {k : Nat} (h1 : u.length ≤ k) (h2 : i.length ≤ k) : msel (u.take k) (i.take k) = msel u i := by
  rw [List.take_of_length_le h1, List.take_of_length_le h2]

def RetLE (w : World) (r : List Str × Int) (e : Ending) (w' : World) : Prop :=
  ∃ A c, e = .returned (.tuple #[.slice A r.1.length c, .int .i64 r.2]) ∧ OS w' w.heap.size A c r.1 ∧ Below w.heap.size w w'
def listA (u : List Str) (i : List Bool) : List Str × Int := if sdB (ks u) i then (msel u i, 0) else ([], 2)
set_option maxHeartbeats 2000000 in
theorem list_any (A D : Option Addr) (c d : Nat) (u : List Str) (i : List Bool) (w : World) (hu : RS w w.heap.size A c u) (hi : RBo w w.heap.size D d i) :
    Calls Try.prog 9 #[.agg #[.slice A u.length c, .slice D i.length d]] w (RetLE w (listA u i)) := by
  have s0 := SC.new w (.slice A u.length c) (.slice D i.length d) 25
  have B1 := bal w (.cells #[.slice A u.length c, .slice D i.length d] 25)
  have z1 : (w.alloc (.cells #[.slice A u.length c, .slice D i.length d] 25)).heap.size = w.heap.size + 1 := by simp
  have hsd := sound_any A D c d u i _ (st hu B1) (st hi B1)
  have l1 := s0.1
  have l2 := s0.2.1
  cases hs : sdB (ks u) i with
  | false =>
    rw [hs] at hsd
    have HR : Hid (listA u i = ([], 2)) := by show _ = _; unfold listA; rw [hs]; rfl
    clear hs
    go_enter Try.func9, Try.ntmps9
    go_wp2_with fail
    refine hsd.mono ?_; rintro e w4 ⟨rfl, B4⟩
    go_wp2_with fail
    go_ret2
    rw [HR.out]
    exact ⟨none, 0, rfl, OL.nil .., bt B1 B4⟩
  | true =>
    rw [hs] at hsd
    have HR : Hid (listA u i = (msel u i, 0)) := by show _ = _; unfold listA; rw [hs]; rfl
    have hlen := sdB_len hs
    rw [ks_length] at hlen
    have hu64 := hlen.1
    have HIL := Lib.hid hlen.2.1
    have hil1 : u.length ≤ i.length := by omega
    clear hs hlen
    go_enter Try.func9, Try.ntmps9
    go_wp2_with fail
    refine hsd.mono ?_; rintro e w4 ⟨rfl, B4⟩
    have s4 := s0.below B4 (by rw [z1]; omega)
    have C4 := bt B1 B4
    have hz4 : w.heap.size < w4.heap.size := by have := B4.size; rw [z1] at this; omega
    have m1 := s4.1
    clear z1 s0 B1 l1 l2 hsd B4
    go_wp2_with fail
    go_loopw [4, 13] (fun ov n wr => ∃ (k : Nat) (A' : Option Addr) (c' : Nat) (o : List Str), k ≤ u.length ∧ n = .int .i64 (k : Int) ∧ ov = .slice A' o.length c' ∧ OS wr w4.heap.size A' c' o ∧ o.length ≤ k ∧ Hid (o = msel (u.take k) (i.take k)) ∧
      SC wr w.heap.size (.slice A u.length c) (.slice D i.length d) ∧ Below w.heap.size w wr ∧ Hid (w4.heap.size ≤ wr.heap.size)) (fun _ n _ => u.length - (intOf n).toNat)
    case atStart => exact ⟨0, none, 0, [], Nat.zero_le _, rfl, rfl, OL.nil .., Nat.le_refl _, by show _ = _; simp [msel], s4, C4, Nat.le_refl _⟩
    case round =>
      obtain ⟨k, A', c', o, hk, rfl, rfl, hO, hol, hm, hS, B, hsz⟩ := hrel
      by_cases h0 : k < u.length
      · obtain ⟨b1, o1, rfl, hlt1, hx⟩ := (st hu B).at_ (by omega)
        obtain ⟨b2, o2, rfl, hlt2, hy⟩ := (st hi B).at_ (by omega)
        obtain ⟨x, hgx⟩ : ∃ x, u[k]? = some x := ⟨_, List.getElem?_eq_getElem h0⟩
        obtain ⟨y, hgy⟩ : ∃ y, i[k]? = some y := ⟨_, List.getElem?_eq_getElem (show k < i.length by omega)⟩
        have hxk := hx k x hgx
        change _ = some (Value.string x) at hxk
        have hyk := hy k y hgy
        change _ = some (Value.bool y) at hyk
        have hst := msel_step hgx hgy
        rw [← hm.out] at hst
        have HST := Lib.hid hst
        have q1 := hS.2.1
        have hki : k < i.length := by omega
        clear hx hy hgx hgy hst
        cases y with
        | true =>
          have hone := RS.one wr 9 x
          have hb2 : Below w.heap.size w (wr.alloc (.cells #[.string x] 9)) := B.alloc B.size _
          have hS2 := hS.alloc (.cells #[.string x] 9)
          go_wp2_with (at_builtin; refine wp_appS _ rfl _ _ rfl w4.heap.size _ _ _ o rfl rfl (hO.alloc _) _ _ _ [x] rfl rfl _ hone (by simp; omega) (by have := hsz.out; simp; omega) ?_; intro A2 c2 w2 g1 g2 g3)
          have hS3 := hS2.below g3 hz4
          have C3 := hb2.trans (g3.mono (Nat.le_of_lt hz4))
          have s3 : Hid (w4.heap.size ≤ w2.heap.size) := by show _ ≤ _; have h1 := hsz.out; have h2 := g3.size; simp at h2; omega
          go_roundw
          case rel => exact ⟨k + 1, A2, c2, _, by omega, by go_num, by rw [List.length_append]; rfl, g1, by simp; omega, by show _ = _; rw [HST.out]; rfl, hS3, C3, s3⟩
          case measure => simp [intOf]; omega
        | false =>
          go_wp2
          go_roundw
          case rel => exact ⟨k + 1, A', c', o, by omega, by go_num, rfl, hO, by omega, by show _ = _; rw [HST.out]; simp, hS, B, hsz⟩
          case measure => simp [intOf]; omega
      · have hfin : Hid (o = msel u i) := by show _ = _; rw [hm.out, msel_end (by omega) (by rw [HIL.out]; omega)]
        go_wp2
        go_ret2
        rw [HR.out]
        refine ⟨A', c', by rw [← hfin.out]; rfl, ?_, B⟩
        rw [← hfin.out]; exact hO.base_le (Nat.le_of_lt hz4)

def RetL (w : World) (l : List Str) (e : Ending) (w' : World) : Prop := ∃ A c, e = .returned (.slice A l.length c) ∧ OS w' w.heap.size A c l ∧ Below w.heap.size w w'
set_option maxHeartbeats 2000000 in
theorem members_any (A D : Option Addr) (c d n m : Nat) (u : List Str) (i : List Bool) (w : World) (hn : n = u.length) (hm : m = i.length) (hl : i.length = u.length) (h64 : u.length ≤ 1000) (hu : RS w w.heap.size A c u) (hi : RBo w w.heap.size D d i) :
    Calls Try.prog 17 #[.slice A n c, .slice D m d] w (RetL w (msel u i)) := by
  subst hn hm
  have HIL := Lib.hid hl
  have hil1 : u.length ≤ i.length := by omega
  have hil2 : i.length ≤ u.length := by omega
  clear hl
  go_enter Try.func17, Try.ntmps17
  go_wp2_with fail
  go_loopw [5, 6] (fun ov n wr => ∃ (k : Nat) (A' : Option Addr) (c' : Nat) (o : List Str), k ≤ u.length ∧ n = .int .i64 (k : Int) ∧ ov = .slice A' o.length c' ∧ OS wr w.heap.size A' c' o ∧ o.length ≤ k ∧ Hid (o = msel (u.take k) (i.take k)) ∧
    Below w.heap.size w wr) (fun _ n _ => u.length - (intOf n).toNat)
  case atStart => exact ⟨0, _, 0, [], Nat.zero_le _, rfl, rfl, OS.empty w, Nat.le_refl _, by show _ = _; simp [msel], bal _ _⟩
  case round =>
    obtain ⟨k, A', c', o, hk, rfl, rfl, hO, hol, hm, B⟩ := hrel
    by_cases h0 : k < u.length
    · obtain ⟨b1, o1, rfl, hlt1, hx⟩ := (st hu B).at_ (by omega)
      obtain ⟨b2, o2, rfl, hlt2, hy⟩ := (st hi B).at_ (by omega)
      obtain ⟨x, hgx⟩ : ∃ x, u[k]? = some x := ⟨_, List.getElem?_eq_getElem h0⟩
      obtain ⟨y, hgy⟩ : ∃ y, i[k]? = some y := ⟨_, List.getElem?_eq_getElem (show k < i.length by omega)⟩
      have hxk := hx k x hgx
      change _ = some (Value.string x) at hxk
      have hyk := hy k y hgy
      change _ = some (Value.bool y) at hyk
      have hst := msel_step hgx hgy
      rw [← hm.out] at hst
      have HST := Lib.hid hst
      have hki : k < i.length := by omega
      clear hx hy hgx hgy hst
      cases y with
      | true =>
        have hone := RS.one wr 9 x
        have hb2 : Below w.heap.size w (wr.alloc (.cells #[.string x] 9)) := B.alloc B.size _
        go_wp2_with (at_builtin; refine wp_appS _ rfl _ _ rfl w.heap.size _ _ _ o rfl rfl (hO.alloc _) _ _ _ [x] rfl rfl _ hone (by simp; omega) hb2.size ?_; intro A2 c2 w2 g1 g2 g3)
        go_roundw
        case rel => exact ⟨k + 1, A2, c2, _, by omega, by go_num, by rw [List.length_append]; rfl, g1, by simp; omega, by show _ = _; rw [HST.out]; rfl, hb2.trans g3⟩
        case measure => simp [intOf]; omega
      | false =>
        go_wp2
        go_roundw
        case rel => exact ⟨k + 1, A', c', o, by omega, by go_num, rfl, hO, by omega, by show _ = _; rw [HST.out]; simp, B⟩
        case measure => simp [intOf]; omega
    · have hfin : Hid (o = msel u i) := by show _ = _; rw [hm.out, msel_end (by omega) (by rw [HIL.out]; omega)]
      go_wp2
      go_ret
      refine ⟨A', c', by rw [← hfin.out]; rfl, ?_, B⟩
      rw [← hfin.out]; exact hO

def indexA (u : List Str) (i : List Bool) (x : Str) : Int × Int := if sdB (ks u) i then (if plc (ks u) x.toList < 0 then (0, 7) else (plc (ks u) x.toList, 0)) else (0, 2)
set_option maxHeartbeats 1000000 in
theorem eindex_any (A D : Option Addr) (c d : Nat) (u : List Str) (i : List Bool) (x : Str) (w : World) (hu : RS w w.heap.size A c u) (hi : RBo w w.heap.size D d i) :
    Calls Try.prog 10 #[.agg #[.slice A u.length c, .slice D i.length d], .string x] w fun e w' => e = .returned (.tuple #[.int .i64 (indexA u i x).1, .int .i64 (indexA u i x).2]) ∧ Below w.heap.size w w' := by
  have s0 := SC.new w (.slice A u.length c) (.slice D i.length d) 25
  have B1 := bal w (.cells #[.slice A u.length c, .slice D i.length d] 25)
  have z1 : (w.alloc (.cells #[.slice A u.length c, .slice D i.length d] 25)).heap.size = w.heap.size + 1 := by simp
  have hsd := sound_any A D c d u i _ (st hu B1) (st hi B1)
  have l1 := s0.1
  have l2 := s0.2.1
  cases hs : sdB (ks u) i with
  | false =>
    rw [hs] at hsd
    have HR : Hid (indexA u i x = (0, 2)) := by show _ = _; unfold indexA; rw [hs]; rfl
    clear hs
    go_enter Try.func10, Try.ntmps10
    go_wp2_with fail
    refine hsd.mono ?_; rintro e w4 ⟨rfl, B4⟩
    go_wp2_with fail
    go_ret2
    rw [HR.out]
    exact ⟨rfl, bt B1 B4⟩
  | true =>
    rw [hs] at hsd
    have HR : Hid (indexA u i x = if plc (ks u) x.toList < 0 then (0, 7) else (plc (ks u) x.toList, 0)) := by show _ = _; unfold indexA; rw [hs]; rfl
    clear hs
    have hix := fun w' h => index_any A c _ u x w' rfl h
    by_cases hp : plc (ks u) x.toList < 0
    · have HR2 : Hid (indexA u i x = (0, 7)) := by show _ = _; rw [HR.out, if_pos hp]
      generalize plc (ks u) x.toList = p at *
      clear HR
      go_enter Try.func10, Try.ntmps10
      go_wp2_with fail
      refine hsd.mono ?_; rintro e w4 ⟨rfl, B4⟩
      have s4 := s0.below B4 (by rw [z1]; omega)
      have m1 := s4.1
      go_wp2_with fail
      refine (hix w4 (st hu (bt B1 B4))).mono ?_; rintro e w5 ⟨rfl, rfl⟩
      go_wp2_with fail
      go_ret2
      rw [HR2.out]
      exact ⟨rfl, bt B1 B4⟩
    · have HR2 : Hid (indexA u i x = (plc (ks u) x.toList, 0)) := by show _ = _; rw [HR.out, if_neg hp]
      generalize plc (ks u) x.toList = p at *
      clear HR
      go_enter Try.func10, Try.ntmps10
      go_wp2_with fail
      refine hsd.mono ?_; rintro e w4 ⟨rfl, B4⟩
      have s4 := s0.below B4 (by rw [z1]; omega)
      have m1 := s4.1
      go_wp2_with fail
      refine (hix w4 (st hu (bt B1 B4))).mono ?_; rintro e w5 ⟨rfl, rfl⟩
      go_wp2_with fail
      go_ret2
      rw [HR2.out]
      exact ⟨rfl, bt B1 B4⟩
end Go.Proofs.Ytmgblmdilepkpaa
