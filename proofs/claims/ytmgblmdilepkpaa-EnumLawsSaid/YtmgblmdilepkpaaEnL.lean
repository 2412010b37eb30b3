/- Walks: bits and same of the law; the symbols of EnumLaws. -/
import Derived.Test.YtmgblmdilepkpaaEnJ
namespace Go.Proofs.Ytmgblmdilepkpaa
open Go.RowKit

def sym (k : Nat) : Str := { data := #[UInt8.ofNat (97 + k % 26), UInt8.ofNat (97 + k / 26)] }
def syms (n : Nat) : List Str := (List.range n).map sym
theorem syms_nodup : (ks (syms 64)).Nodup := by decide +kernel
theorem syms_len (n : Nat) : (syms n).length = n := by simp [syms]
theorem syms_take {n : Nat} (h : n ≤ 64) : syms n = (syms 64).take n := by
  unfold syms
  rw [← List.map_take, List.take_range, Nat.min_eq_left h]
theorem syms_tw {n : Nat} (h : n ≤ 64) : twB (ks (syms n)) = false := by
  have h1 : (ks (syms n)).Nodup := by
    rw [syms_take h, ks_take]
    exact syms_nodup.sublist (List.take_sublist _ _)
  unfold twB
  simp [h1]
theorem syms_succ (n : Nat) : syms (n + 1) = syms n ++ [sym n] := by
  unfold syms
  rw [List.range_succ, List.map_append]; rfl

def RetB (w : World) (n : Nat) (e : Ending) (w' : World) : Prop := ∃ A c l, l.length = n ∧ e = .returned (.slice A n c) ∧ OBo w' w.heap.size A c l ∧ Below w.heap.size w w'
theorem OBo.empty (w : World) : OBo (w.alloc (.cells #[] 4)) w.heap.size (some ⟨w.heap.size, 0, none⟩) 0 [] := by
  refine ⟨?_, by simp⟩
  have h := World.ownsRow_lit (e := 4) (size := 1) w #[] 0 (Nat.le_refl _) (by unfold maxLen; omega) (by simp)
  simpa using h
set_option maxHeartbeats 1000000 in
theorem bits_any (a : Nat) (n : Nat) (w : World) (ha : a < 18446744073709551616) (hn : n ≤ 64) :
    Calls Try.prog 18 #[.int .u64 (a : Int), .int .i64 (n : Int)] w (RetB w n) := by
  go_enter Try.func18, Try.ntmps18
  go_wp2_with fail
  go_loopg [5, 6] n (fun gg ov iv wr => ∃ (k : Nat) (A' : Option Addr) (c' : Nat) (o : List Bool), k ≤ n ∧ n - k = gg ∧ iv = .int .i64 (k : Int) ∧ ov = .slice A' o.length c' ∧ OBo wr w.heap.size A' c' o ∧ o.length = k ∧ Below w.heap.size w wr)
  case atStart => exact ⟨0, _, 0, [], Nat.zero_le _, rfl, rfl, rfl, OBo.empty w, rfl, bal _ _⟩
  case round =>
    obtain ⟨k, A', c', o, hk, rfl, rfl, rfl, hO, hol, B⟩ := hrel
    by_cases h0 : k < n
    · have HOL := Lib.hid hol
      have hol2 : o.length ≤ 64 := by omega
      clear hol
      go_wp2_with (at_builtin; refine wp_appB _ rfl _ _ rfl w.heap.size _ _ _ o rfl rfl (hO.alloc _) _ _ _ [_] rfl rfl _ (RBo.one wr _ _) (by simp; omega) (B.alloc B.size _).size ?_; intro A2 c2 w2 g1 g2 g3)
      go_roundg (n - (k + 1))
      case measure => omega
      case rel => exact ⟨k + 1, A2, c2, _, by omega, rfl, by go_num, by rw [List.length_append]; rfl, g1, by rw [List.length_append, HOL.out]; rfl, (B.alloc B.size _).trans g3⟩
    · obtain rfl : k = n := by omega
      have HOL := Lib.hid hol
      clear hol
      go_wp2_with fail
      go_ret
      exact ⟨A', c', o, HOL.out, by rw [← HOL.out]; rfl, hO, B⟩

/-- plain laws of the bools of sets -/
theorem getD_map {n k : Nat} {f : Nat → Bool} (hk : k < n) : ((List.range n).map f).getD k false = f k := by
  rw [List.getD_eq_getElem?_getD, List.getElem?_map, List.getElem?_range hk]; rfl
theorem bothI_ext {n : Nat} {g h : Bool → Bool → Bool} {a b c d : List Bool} (he : ∀ k, k < n → g (a.getD k false) (b.getD k false) = h (c.getD k false) (d.getD k false)) : bothI g n a b = bothI h n c d := by
  unfold bothI
  refine List.map_congr_left fun k hk => ?_
  exact he k (List.mem_range.1 hk)
theorem bothI_at {n k : Nat} {g : Bool → Bool → Bool} {a b : List Bool} (hk : k < n) : (bothI g n a b).getD k false = g (a.getD k false) (b.getD k false) := by
  unfold bothI; exact getD_map hk
/-- what is not in a union is in neither's rest -/
theorem law_neither (n : Nat) (x y : List Bool) :
    bothI (fun a _ => !a) n (bothI (fun a b => a || b) n x y) (bothI (fun a b => a || b) n x y) = bothI (fun a b => a && b) n (bothI (fun a _ => !a) n x x) (bothI (fun a _ => !a) n y y) := by
  refine bothI_ext fun k hk => ?_
  rw [bothI_at hk, bothI_at hk, bothI_at hk, Bool.not_or]
theorem law_all (n : Nat) (x : List Bool) (u : List Str) (hn : u.length = n) : bothI (fun a b => a || b) n x (bothI (fun a _ => !a) n x x) = tru u := by
  unfold tru
  rw [hn]
  unfold bothI
  refine List.map_congr_left fun k hk => ?_
  rw [getD_map (List.mem_range.1 hk)]
  cases x.getD k false <;> rfl
theorem msel_false {α : Type} : ∀ (u : List α) (i : List Bool), (∀ b, b ∈ i → b = false) → msel u i = []
  | x :: u, b :: i, h => by
    have hb := h b (by simp)
    subst hb
    simp only [msel]
    rw [if_neg (by simp), msel_false u i (fun b hb => h b (by simp [hb]))]
  | [], _, _ => by simp [msel]
  | _ :: _, [], _ => by simp [msel]
theorem law_none (n : Nat) (x : List Bool) (u : List Str) : msel u (bothI (fun a b => a && b) n x (bothI (fun a _ => !a) n x x)) = [] := by
  refine msel_false _ _ fun b hb => ?_
  unfold bothI at hb
  rw [List.mem_map] at hb
  obtain ⟨k, hk, rfl⟩ := hb
  rw [getD_map (List.mem_range.1 hk)]
  cases x.getD k false <;> rfl
theorem msel_nil_iff {α : Type} : ∀ (u : List α) (i : List Bool), u.length = i.length → ((msel u i).length = 0 ↔ ∀ b, b ∈ i → b = false)
  | x :: u, b :: i, h => by
    have ih := msel_nil_iff u i (by simpa using h)
    simp only [msel]
    cases b with
    | true => simp
    | false =>
      rw [if_neg (by simp), ih]
      simp
  | [], [], _ => by simp [msel]
/-- what a set says of its own symbols -/
theorem has_self' {v : List K} {j : List Bool} {k : Nat} (h : twB v = false) (hk : k < v.length) : hasB v j (v.getD k []) = j.getD k false := by
  have hnd : v.Nodup := by unfold twB at h; simpa using h
  have hg : v.getD k [] = v[k] := by rw [List.getD_eq_getElem?_getD, List.getElem?_eq_getElem hk]; rfl
  unfold hasB
  rw [hg, decide_eq_true (List.getElem_mem hk), hnd.idxOf_getElem k hk]; rfl
/-- a set is within another just if nothing is left without that one -/
theorem law_sub {u : List Str} {x y : List Bool} (ht : twB (ks u) = false) :
    subB (ks u) x (ks u) y = decide ((msel u (bothI (fun a b => a && !b) u.length x y)).length = 0) := by
  have h := msel_nil_iff u (bothI (fun a b => a && !b) u.length x y) (by simp [bothI])
  rw [Bool.eq_iff_iff, decide_eq_true_eq, h]
  unfold subB bothI
  rw [List.all_eq_true, ks_length]
  constructor
  · intro h1 b hb
    rw [List.mem_map] at hb
    obtain ⟨k, hk, rfl⟩ := hb
    have h2 := h1 k hk
    rw [has_self' ht (by rw [ks_length]; exact List.mem_range.1 hk)] at h2
    revert h2
    cases x.getD k false <;> cases y.getD k false <;> simp
  · intro h1 k hk
    have h2 := h1 _ (List.mem_map.2 ⟨k, hk, rfl⟩)
    rw [has_self' ht (by rw [ks_length]; exact List.mem_range.1 hk)]
    revert h2
    cases x.getD k false <;> cases y.getD k false <;> simp
end Go.Proofs.Ytmgblmdilepkpaa
