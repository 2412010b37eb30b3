/- Walks: is, awake of the law; the law EnumMade. -/
import Derived.Test.YtmgblmdilepkpaaEnF
namespace Go.Proofs.Ytmgblmdilepkpaa
open Go.RowKit

theorem SC.nx {w w' : World} {b : Nat} {v0 v1 : Value} (h : SC w b v0 v1) (hb : Below w.heap.size w w') : SC w' b v0 v1 := h.below hb h.2.2.2.2
theorem same_b (A D : Option Addr) (c d n m : Nat) (a b : List Str) (w : World) (hn : n = a.length) (hm : m = b.length) (hab : ks a = ks b) (ha : RS w w.heap.size A c a) (hb : RS w w.heap.size D d b) :
    Calls Try.prog 16 #[.slice A n c, .slice D m d] w fun e w' => e = .returned (.bool true) ∧ Below w.heap.size w w' := by
  have h := sametexts_any A D c d n m a b w hn hm ha hb
  rw [decide_eq_true hab] at h
  refine h.mono ?_
  rintro e w' ⟨rfl, q, rfl⟩
  exact ⟨rfl, bdN (Below.refl _ _) q⟩
set_option maxHeartbeats 1000000 in
theorem is_yes (A D E G : Option Addr) (c d e0 g0 n m p q : Nat) (u : List Str) (i : List Bool) (v l : List Str) (w : World) (hn : n = u.length) (hm : m = i.length) (hp : p = v.length) (hq : q = l.length)
    (hs : sdB (ks u) i = true) (h1 : ks u = ks v) (h2 : msel (ks u) i = ks l)
    (hu : RS w w.heap.size A c u) (hi : RBo w w.heap.size D d i) (hv : RS w w.heap.size E e0 v) (hl : RS w w.heap.size G g0 l) :
    Calls Try.prog 14 #[.agg #[.slice A n c, .slice D m d], .int .i64 0, .slice E p e0, .slice G q g0] w fun e w' => e = .returned (.bool true) ∧ Below w.heap.size w w' := by
  subst hn hm hp hq
  have s0 := SC.new w (.slice A u.length c) (.slice D i.length d) 25
  have B1 := bal w (.cells #[.slice A u.length c, .slice D i.length d] 25)
  have hsd := sound_any A D c d u i _ (st hu B1) (st hi B1)
  rw [hs] at hsd
  have hlen := sdB_len hs
  rw [ks_length] at hlen
  have hmem := fun w' x y => members_any A D c d _ _ u i w' rfl rfl hlen.2.1 (by omega) x y
  have hs1 := fun w' x y => same_b A E c e0 _ _ u v w' rfl rfl h1 x y
  have hs2 := fun A4 c4 w' x y => same_b A4 G c4 g0 _ _ (msel u i) l w' rfl rfl (by rw [ks_msel]; exact h2) x y
  have m1 := s0.1
  have m2 := s0.2.1
  clear hs hlen h1 h2
  go_enter Try.func14, Try.ntmps14
  go_wp2_with fail
  refine hsd.mono ?_; rintro e w2 ⟨rfl, B2⟩
  have s2 := s0.nx B2
  have C2 := bt B1 B2
  have m3 := s2.1
  have m4 := s2.2.1
  go_wp2_with fail
  refine (hs1 w2 (st hu C2) (st hv C2)).mono ?_; rintro e w3 ⟨rfl, B3⟩
  have s3 := s2.nx B3
  have C3 := bt C2 B3
  have m5 := s3.1
  have m6 := s3.2.1
  go_wp2_with fail
  refine (hmem w3 (st hu C3) (st hi C3)).mono ?_; rintro e w4 ⟨A4, c4, rfl, O4, B4⟩
  have C4 := bt C3 B4
  go_wp2_with fail
  refine (hs2 A4 c4 w4 O4.rl (st hl C4)).mono ?_; rintro e w5 ⟨rfl, B5⟩
  go_wp2_with fail
  go_ret
  exact ⟨rfl, bt C4 B5⟩

theorem RS.two (w : World) (t : TypeId) (x y : Str) : RS (w.alloc (.cells #[.string x, .string y] t)) (w.heap.size + 1) (some ⟨w.heap.size, 0, none⟩) 2 [x, y] := by
  refine ⟨by simp, by simp, fun _ => ⟨_, _, rfl, by omega, fun k z hk => ?_⟩⟩
  have h0 := heap_alloc_new w (.cells #[.string x, .string y] t)
  rw [cell_of_row _ _ _ _ _ _ h0, Nat.zero_add]
  match k, hk with
  | 0, hk => simp at hk; subst hk; rfl
  | 1, hk => simp at hk; subst hk; rfl
theorem all_true_sel {α : Type} : ∀ (u : List α) (i : List Bool), i.length = u.length → (∀ b, b ∈ i → b = true) → msel u i = u
  | x :: u, b :: i, h, ht => by
    have hb := ht b (by simp)
    subst hb
    simp only [msel, if_true]
    rw [all_true_sel u i (by simpa using h) (fun b hb => ht b (by simp [hb]))]
  | [], _, _, _ => by simp [msel]
  | _ :: _, [], h, _ => by simp at h
def tru (u : List Str) : List Bool := (List.range u.length).map (fun _ => true)
theorem tru_len (u : List Str) : (tru u).length = u.length := by simp [tru]
theorem tru_sel (u : List Str) : msel (ks u) (tru u) = ks u := all_true_sel _ _ (by rw [tru_len, ks_length]) (fun b hb => by simp [tru] at hb; exact hb.2)
theorem tru_sel' (u : List Str) : msel u (tru u) = u := all_true_sel _ _ (tru_len u) (fun b hb => by simp [tru] at hb; exact hb.2)
theorem newA_ok {u : List Str} (h : twB (ks u) = false) (h64 : ¬ 64 < u.length) : newA u = (u, tru u, 0) := by unfold newA; rw [h, if_neg (by simp), if_neg h64]; rfl
theorem sdB_of {u : List Str} {i : List Bool} (h : twB (ks u) = false) (h64 : ¬ 64 < u.length) (hl : i.length = u.length) : sdB (ks u) i = true := by
  unfold sdB
  rw [ks_length, h, hl, decide_eq_true (show u.length ≤ 64 by omega)]; simp
def lA : Str := { data := #[97] }
def lB : Str := { data := #[98] }
theorem ks_ab : ks [lA, lB] = [[97], [98]] := by decide +kernel
theorem tw_ab : twB (ks [lA, lB]) = false := by rw [ks_ab]; decide +kernel
set_option maxHeartbeats 1000000 in
theorem awake_any (w : World) : Calls Try.prog 11 #[] w fun e w' => e = .returned (.bool true) ∧ Below w.heap.size w w' := by
  have B1 := bal w (.cells #[.string lA, .string lB] 9)
  have R1 : RS (w.alloc (.cells #[.string lA, .string lB] 9)) (w.alloc (.cells #[.string lA, .string lB] 9)).heap.size (some ⟨w.heap.size, 0, none⟩) 2 [lA, lB] := (RS.two w 9 lA lB).more (by simp)
  have hnew := new_any (some ⟨w.heap.size, 0, none⟩) 2 2 [lA, lB] _ rfl R1
  rw [newA_ok tw_ab (by simp)] at hnew
  have hli := fun A D c d w' x y => list_any A D c d [lA, lB] (tru [lA, lB]) w' x y
  have hL : listA [lA, lB] (tru [lA, lB]) = ([lA, lB], 0) := by unfold listA; rw [sdB_of tw_ab (by simp) (tru_len _), tru_sel']; rfl
  rw [hL] at hli
  have ht2 : (tru [lA, lB]).length = 2 := by rw [tru_len]; rfl
  clear hL
  have hB : lB = { data := #[98] } := rfl
  have HB := Lib.hid hB
  go_enter Try.func11, Try.ntmps11
  go_wp2_with fail
  rw [show ({ data := #[97] } : Str) = lA from rfl, show ({ data := #[98] } : Str) = lB from rfl]
  clear hB
  refine hnew.mono ?_; rintro e w2 ⟨A2, c2, D2, d2, rfl, O2, P2, B2⟩
  have n2 := SC.new w2 (.slice A2 2 c2) (.slice D2 2 d2) 25
  have B3 := bal w2 (.cells #[.slice A2 2 c2, .slice D2 2 d2] 25)
  have m1 := n2.1
  have m2 := n2.2.1
  have hl3 := hli A2 D2 c2 d2 _ (st O2.rl B3) (st P2.rl B3)
  rw [ht2] at hl3
  go_wp2_with fail
  refine hl3.mono ?_; rintro e w4 ⟨A4, c4, rfl, O4, B4⟩
  rcases O4.form with ⟨_, _, he⟩ | ⟨g4, rfl, _, _, _⟩
  · simp at he
  have hc := O4.cell (k := 1) (x := lB) rfl
  change _ = some (Value.string lB) at hc
  have hbb : (lB.toList == [98]) = true := by decide +kernel
  go_wp2_with fail
  go_ret
  exact ⟨rfl, bt (bt (bt B1 B2) B3) B4⟩
end Go.Proofs.Ytmgblmdilepkpaa
