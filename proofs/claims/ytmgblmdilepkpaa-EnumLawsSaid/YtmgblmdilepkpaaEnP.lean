/- Lists of keys (texts as lists of bytes) and of bools: places, doubles, members. No program in sight. -/
namespace Go.Proofs.Ytmgblmdilepkpaa

abbrev K := List UInt8
def ks (l : List ByteArray) : List K := l.map ByteArray.toList
theorem ks_length (l : List ByteArray) : (ks l).length = l.length := List.length_map ..
theorem ks_get {l : List ByteArray} {k : Nat} {y : ByteArray} (h : l[k]? = some y) : (ks l)[k]? = some y.toList := by
  unfold ks; rw [List.getElem?_map, h]; rfl
theorem ks_take (l : List ByteArray) (k : Nat) : ks (l.take k) = (ks l).take k := by unfold ks; rw [List.map_take]
theorem ks_append (a b : List ByteArray) : ks (a ++ b) = ks a ++ ks b := List.map_append
/-- where a key stands, or -1 -/
def plc (l : List K) (x : K) : Int := if x ∈ l then (l.idxOf x : Int) else -1
theorem plc_le (l : List K) (x : K) : -1 ≤ plc l x := by unfold plc; split <;> omega
theorem plc_lt (l : List K) (x : K) : plc l x < l.length := by
  unfold plc
  split
  · rename_i h
    have := List.idxOf_lt_length_of_mem h
    omega
  · omega
theorem plc_neg {l : List K} {x : K} : plc l x < 0 ↔ ¬ x ∈ l := by
  unfold plc
  split
  · simp_all
  · simp_all
theorem plc_pos {l : List K} {x : K} : 0 ≤ plc l x ↔ x ∈ l := by
  have := plc_neg (l := l) (x := x)
  constructor
  · intro h; exact Classical.byContradiction fun h1 => by have := this.2 h1; omega
  · intro h; exact Classical.byContradiction fun h1 => absurd h (this.1 (by omega))
/-- x is not among the first k -/
def Nf (l : List K) (x : K) (k : Nat) : Prop := ¬ x ∈ l.take k
theorem Nf_zero (l : List K) (x : K) : Nf l x 0 := by unfold Nf; simp
theorem take_succ_of {α : Type} {l : List α} {k : Nat} {y : α} (h : l[k]? = some y) : l.take (k + 1) = l.take k ++ [y] := by
  rw [List.take_add_one, h]; rfl
theorem Nf_succ {l : List K} {x y : K} {k : Nat} (h : Nf l x k) (hy : l[k]? = some y) (hne : (x == y) = false) : Nf l x (k + 1) := by
  unfold Nf at *
  rw [take_succ_of hy, List.mem_append, List.mem_singleton]
  rintro (h1 | h1)
  · exact h h1
  · rw [h1] at hne; simp at hne
theorem plc_found {l : List K} {x y : K} {k : Nat} (h : Nf l x k) (hy : l[k]? = some y) (he : (x == y) = true) : plc l x = k := by
  have hxy : x = y := by simpa using he
  subst hxy
  have hm : x ∈ l := List.mem_of_getElem? hy
  obtain ⟨hk, hg⟩ := List.getElem?_eq_some_iff.1 hy
  unfold plc
  rw [if_pos hm]
  congr 1
  have e : l = l.take k ++ (x :: l.drop (k + 1)) := by
    conv => lhs; rw [← List.take_append_drop k l]
    rw [List.drop_eq_getElem_cons hk, hg]
  rw [e, List.idxOf_append, if_neg h, List.idxOf_cons_self, List.length_take]
  omega
theorem plc_none {l : List K} {x : K} {k : Nat} (h : Nf l x k) (hk : l.length ≤ k) : plc l x = -1 := by
  unfold Nf at h
  rw [List.take_of_length_le hk] at h
  unfold plc
  rw [if_neg h]
/-- the first k stand once -/
def Nd (l : List K) (k : Nat) : Prop := (l.take k).Nodup
theorem Nd_zero (l : List K) : Nd l 0 := by unfold Nd; simp
theorem Nd_succ {l : List K} {y : K} {k : Nat} (h : Nd l k) (hy : l[k]? = some y) (hn : ¬ y ∈ l.take k) : Nd l (k + 1) := by
  unfold Nd at *
  rw [take_succ_of hy, List.nodup_append]
  refine ⟨h, by simp, ?_⟩
  intro a ha b hb hab
  rw [List.mem_singleton] at hb
  subst hab; subst hb
  exact hn ha
def twB (l : List K) : Bool := decide (¬ l.Nodup)
theorem twB_yes {l : List K} {y : K} {k : Nat} (hy : l[k]? = some y) (hm : y ∈ l.take k) : twB l = true := by
  unfold twB
  rw [decide_eq_true_eq]
  intro hnd
  have h1 : (l.take (k + 1)).Nodup := hnd.sublist (List.take_sublist _ _)
  rw [take_succ_of hy, List.nodup_append] at h1
  exact h1.2.2 y hm y (by simp) rfl
theorem twB_no {l : List K} {k : Nat} (h : Nd l k) (hk : l.length ≤ k) : twB l = false := by
  unfold Nd at h
  rw [List.take_of_length_le hk] at h
  unfold twB
  simp [h]
/-- the reference's way: a place ahead -/
theorem plc_ahead {l : List K} {y : K} {k : Nat} (hy : l[k]? = some y) : plc l y < k ↔ y ∈ l.take k := by
  constructor
  · intro h
    refine Classical.byContradiction fun h1 => ?_
    have := plc_found (x := y) (y := y) h1 hy (by simp)
    omega
  · intro h
    have hm : y ∈ l := List.mem_of_mem_take h
    unfold plc
    rw [if_pos hm]
    have h1 := List.idxOf_lt_length_of_mem h
    have e : l.idxOf y = (l.take k).idxOf y := by
      conv => lhs; rw [← List.take_append_drop k l]
      rw [List.idxOf_append, if_pos h]
    rw [List.length_take] at h1
    omega
end Go.Proofs.Ytmgblmdilepkpaa
