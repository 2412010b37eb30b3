/- Arguments as they come in: numbers, of a bulk that is bounded. -/
import Derived.Test.YtbgggepdlkbpoaaGreatDoorGW
import Derived.Test.YtbgggepdlkbpoaaGreatDoorGF
import Derived.Test.YtbgggepdlkbpoaaGreatDoorRows
namespace Go.Proofs.YtbgggepdlkbpoaaGreatDoor
open Go.ChangeShapes Go.WideShapes Go.ChangeAt Go.RowKit

theorem bulk_one {H : Type} (d : DataW H) : 1 ≤ Rows.uptoBulk d := by
  cases d with
  | lit l => cases l <;> simp [Rows.uptoBulk]
  | nil => simp [Rows.uptoBulk]
  | ptr d => simp [Rows.uptoBulk]
  | slice elems spare => simp [Rows.uptoBulk]
  | agg parts => simp [Rows.uptoBulk]
  | iface t d => simp [Rows.uptoBulk]
  | map entries => simp [Rows.uptoBulk]
  | held h => simp [Rows.uptoBulk]
theorem bulk_part {H : Type} {d : DataW H} {l : List (DataW H)} (h : d ∈ l) : Rows.uptoBulk d ≤ Rows.uptoBulkAll l := by
  induction l with
  | nil => cases h
  | cons x r ih =>
    simp only [Rows.uptoBulkAll]
    cases List.mem_cons.1 h with
    | inl e => subst e; omega
    | inr e => have := ih e; omega
theorem bulk_len {H : Type} (l : List (DataW H)) : l.length ≤ Rows.uptoBulkAll l := by
  induction l with
  | nil => simp [Rows.uptoBulkAll]
  | cons x r ih => have := bulk_one x; simp only [Rows.uptoBulkAll, List.length_cons]; omega
theorem bulk_slice {H : Type} (elems spare : List (DataW H)) : elems.length + spare.length + 1 ≤ Rows.uptoBulk (.slice elems spare) := by
  have h1 := bulk_len elems
  have h2 := bulk_len spare
  simp only [Rows.uptoBulk]
  omega
theorem bulk_elem {H : Type} {elems spare : List (DataW H)} {d : DataW H} (h : d ∈ elems) : Rows.uptoBulk d ≤ Rows.uptoBulk (.slice elems spare) := by
  have := bulk_part h
  simp only [Rows.uptoBulk]
  omega
theorem bulk_field {H : Type} {parts : List (DataW H)} {d : DataW H} (h : d ∈ parts) : Rows.uptoBulk d ≤ Rows.uptoBulk (.agg parts) := by
  have := bulk_part h
  simp only [Rows.uptoBulk]
  omega
section
variable {H : Type} {enc : TypeId × Value → H} {W : World}
theorem openW1 {fuel : Nat} {c1 : Value} {y : DataW H × List MemPlace} (h : DataW.trod enc Tryz.prog W 0 (fun _ => true) true fuel 22 [c1] = some y)
    (hsz : ∀ es sp, y.1 = .slice es sp → (es.length + sp.length) * Tryz.prog.bytesOf 55 ≤ reachBytes) : ∃ A c l, c1 = .slice A l.length c ∧ RW W W.heap.size A c l := by
  obtain ⟨a, len, cap, rfl⟩ : ∃ a len cap, c1 = .slice a len cap := by
    rcases open_ints Tryz.underlying22 Tryz.underlying55 (by kernel_rfl) h with ⟨hcs, _⟩ | ⟨x, l, c, zs, hcs, _⟩
    · simp at hcs; exact ⟨_, _, _, hcs⟩
    · simp at hcs; exact ⟨_, _, _, hcs⟩
  obtain ⟨l, rfl, hr⟩ := openW (d := y.1) (p := y.2) ⟨fuel, h⟩ hsz
  exact ⟨a, cap, l, rfl, hr⟩
theorem cells_bool : Tryz.prog.cellsOf 4 = 1 := by kernel_rfl
theorem cells_words : Tryz.prog.cellsOf 22 = 1 := by kernel_rfl
theorem cells_rat : Tryz.prog.cellsOf 24 = 3 := by kernel_rfl
set_option maxRecDepth 100000 in
theorem openR1 {fuel : Nat} {c0 c1 c2 : Value} {y : DataW H × List MemPlace} (h : DataW.trod enc Tryz.prog W 0 (fun _ => true) true fuel 24 [c0, c1, c2] = some y)
    (hsz : Rows.uptoBulk y.1 ≤ 1048576) : ∃ s A c a D d b, c0 = .bool s ∧ c1 = .slice A a.length c ∧ c2 = .slice D b.length d ∧ RW W W.heap.size A c a ∧ RW W W.heap.size D d b := by
  obtain ⟨xs, n, _, hx, _, hlen, hg⟩ := DataW.trod_struct Tryz.underlying24 h
  match xs, hlen with
  | [y0, y1, y2], _ =>
    subst hx
    have g0 := hg 0 _ rfl
    have g1 := hg 1 _ rfl
    have g2 := hg 2 _ rfl
    change DataW.trod enc Tryz.prog W 0 (fun _ => true) true n 4 (([c0, c1, c2].drop 0).take (Tryz.prog.cellsOf 4)) = some y0 at g0
    change DataW.trod enc Tryz.prog W 0 (fun _ => true) true n 22 (([c0, c1, c2].drop 1).take (Tryz.prog.cellsOf 22)) = some y1 at g1
    change DataW.trod enc Tryz.prog W 0 (fun _ => true) true n 22 (([c0, c1, c2].drop 2).take (Tryz.prog.cellsOf 22)) = some y2 at g2
    rw [cells_bool] at g0
    rw [cells_words] at g1 g2
    obtain ⟨s, h0, _⟩ := DataW.trod_bool Tryz.underlying4 (cs := [c0]) g0
    simp at h0
    have hs1 : ∀ es sp, y1.1 = .slice es sp → (es.length + sp.length) * Tryz.prog.bytesOf 55 ≤ reachBytes := fun es sp he =>
      by
        have h1 := bulk_slice es sp
        have h2 := hsz
        rw [← he] at h1
        have h3 : Rows.uptoBulk y1.1 ≤ _ := bulk_field (parts := [y0.1, y1.1, y2.1]) (by simp)
        simp only [List.map_cons, List.map_nil] at h2
        rw [bytesW]
        simp only [reachBytes]
        omega
    have hs2 : ∀ es sp, y2.1 = .slice es sp → (es.length + sp.length) * Tryz.prog.bytesOf 55 ≤ reachBytes := fun es sp he =>
      by
        have h1 := bulk_slice es sp
        have h2 := hsz
        rw [← he] at h1
        have h3 : Rows.uptoBulk y2.1 ≤ _ := bulk_field (parts := [y0.1, y1.1, y2.1]) (by simp)
        simp only [List.map_cons, List.map_nil] at h2
        rw [bytesW]
        simp only [reachBytes]
        omega
    obtain ⟨A, c, a, e1, r1⟩ := openW1 (c1 := c1) g1 hs1
    obtain ⟨D, d, b, e2, r2⟩ := openW1 (c1 := c2) g2 hs2
    exact ⟨s, A, c, a, D, d, b, h0, e1, e2, r1, r2⟩
set_option maxRecDepth 100000 in
theorem openN {r : Reach} {b0 : Nat} {v : Value} {d : DataW H} {p : List MemPlace} (hv : Value.okWide Tryz.prog W r b0 26 v) (h : DataW.Trod enc Tryz.prog W 0 (fun _ => true) true 26 v d p)
    (hsz : Rows.uptoBulk d ≤ 1048576) : ∃ x i, VN W W.heap.size v x i := by
  obtain ⟨cs, rfl, hn⟩ := okWide_struct Tryz.underlying26 hv
  obtain ⟨l⟩ := cs
  match l, hn.trans (show Tryz.prog.cellsOf 26 = 6 by kernel_rfl) with
  | [c0, c1, c2, c3, c4, c5], _ =>
    obtain ⟨fuel, hf⟩ := h
    obtain ⟨xs, n, _, hx, _, hlen, hg⟩ := DataW.trod_struct Tryz.underlying26 hf
    match xs, hlen with
    | [y0, y1], _ =>
      simp only [Prod.mk.injEq] at hx
      obtain ⟨rfl, _⟩ := hx
      have g0 := hg 0 _ rfl
      have g1 := hg 1 _ rfl
      change DataW.trod enc Tryz.prog W 0 (fun _ => true) true n 24 (([c0, c1, c2, c3, c4, c5].drop 0).take (Tryz.prog.cellsOf 24)) = some y0 at g0
      change DataW.trod enc Tryz.prog W 0 (fun _ => true) true n 24 (([c0, c1, c2, c3, c4, c5].drop 3).take (Tryz.prog.cellsOf 24)) = some y1 at g1
      rw [cells_rat] at g0 g1
      have hs0 : Rows.uptoBulk y0.1 ≤ 1048576 := Nat.le_trans (bulk_field (parts := [y0.1, y1.1]) (by simp)) hsz
      have hs1 : Rows.uptoBulk y1.1 ≤ 1048576 := Nat.le_trans (bulk_field (parts := [y0.1, y1.1]) (by simp)) hsz
      obtain ⟨s1, A1, k1, a1, D1, d1, b1, e0, e1, e2, r1, r2⟩ := openR1 (c0 := c0) (c1 := c1) (c2 := c2) g0 hs0
      obtain ⟨s2, A2, k2, a2, D2, d2, b2, e3, e4, e5, r3, r4⟩ := openR1 (c0 := c3) (c1 := c4) (c2 := c5) g1 hs1
      subst e0 e1 e2 e3 e4 e5
      exact ⟨⟨s1, a1, b1⟩, ⟨s2, a2, b2⟩, A1, k1, D1, d1, A2, k2, D2, d2, rfl, r1, r2, r3, r4⟩
end
end Go.Proofs.YtbgggepdlkbpoaaGreatDoor
