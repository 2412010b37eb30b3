/- Arguments as they come in: bytes, numbers, lists of numbers, of a bulk that is bounded. -/
import Derived.Test.YtabcnpcfknlmlaaFrameB
import Derived.Test.YtabcnpcfknlmlaaGT
import Derived.Test.YtabcnpcfknlmlaaRows
import Derived.Deep.Slices
namespace Go.Proofs.Ytabcnpcfknlmlaa
open Go.ChangeShapes Go.WideShapes Go.ChangeAt Go.RowKit

theorem bulk_one {H : Type} (d : DataW H) : 1 ≤ Rows.uptoBulk d := by
  cases d with
  | lit l => cases l <;> simp [Rows.uptoBulk]
  | nil => simp [Rows.uptoBulk]
  | ptr d => simp [Rows.uptoBulk]
  | slice elems spare => simp [Rows.uptoBulk]
  | agg parts => simp [Rows.uptoBulk]
  | iface t d => simp [Rows.uptoBulk]
  | map entries => simp [Rows.uptoBulk]
  | held h => simp [Rows.uptoBulk]
theorem bulk_part {H : Type} {d : DataW H} {l : List (DataW H)} (h : d ∈ l) : Rows.uptoBulk d ≤ Rows.uptoBulkAll l := by
  induction l with
  | nil => cases h
  | cons x r ih =>
    simp only [Rows.uptoBulkAll]
    cases List.mem_cons.1 h with
    | inl e => subst e; omega
    | inr e => have := ih e; omega
theorem bulk_len {H : Type} (l : List (DataW H)) : l.length ≤ Rows.uptoBulkAll l := by
  induction l with
  | nil => simp [Rows.uptoBulkAll]
  | cons x r ih => have := bulk_one x; simp only [Rows.uptoBulkAll, List.length_cons]; omega
theorem bulk_slice {H : Type} (elems spare : List (DataW H)) : elems.length + spare.length + 1 ≤ Rows.uptoBulk (.slice elems spare) := by
  have h1 := bulk_len elems
  have h2 := bulk_len spare
  simp only [Rows.uptoBulk]
  omega
theorem bulk_elem {H : Type} {elems spare : List (DataW H)} {d : DataW H} (h : d ∈ elems) : Rows.uptoBulk d ≤ Rows.uptoBulk (.slice elems spare) := by
  have := bulk_part h
  simp only [Rows.uptoBulk]
  omega
theorem bulk_field {H : Type} {parts : List (DataW H)} {d : DataW H} (h : d ∈ parts) : Rows.uptoBulk d ≤ Rows.uptoBulk (.agg parts) := by
  have := bulk_part h
  simp only [Rows.uptoBulk]
  omega
section
variable {H : Type} {enc : TypeId × Value → H} {W : World}
theorem openW1 {fuel : Nat} {c1 : Value} {y : DataW H × List MemPlace} (h : DataW.trod enc Try.prog W 0 (fun _ => true) true fuel 23 [c1] = some y)
    (hsz : ∀ es sp, y.1 = .slice es sp → (es.length + sp.length) * Try.prog.bytesOf 53 ≤ reachBytes) : ∃ A c l, c1 = .slice A l.length c ∧ RW W W.heap.size A c l := by
  obtain ⟨a, len, cap, rfl⟩ : ∃ a len cap, c1 = .slice a len cap := by
    rcases open_ints Try.underlying23 Try.underlying53 (by kernel_rfl) h with ⟨hcs, _⟩ | ⟨x, l, c, zs, hcs, _⟩
    · simp at hcs; exact ⟨_, _, _, hcs⟩
    · simp at hcs; exact ⟨_, _, _, hcs⟩
  obtain ⟨l, rfl, hr⟩ := openW (d := y.1) (p := y.2) ⟨fuel, h⟩ hsz
  exact ⟨a, cap, l, rfl, hr⟩
theorem cells_bool : Try.prog.cellsOf 4 = 1 := by kernel_rfl
theorem cells_words : Try.prog.cellsOf 23 = 1 := by kernel_rfl
theorem cells_rat : Try.prog.cellsOf 25 = 3 := by kernel_rfl
set_option maxRecDepth 100000 in
theorem openR1 {fuel : Nat} {c0 c1 c2 : Value} {y : DataW H × List MemPlace} (h : DataW.trod enc Try.prog W 0 (fun _ => true) true fuel 25 [c0, c1, c2] = some y)
    (hsz : Rows.uptoBulk y.1 ≤ 1048576) : ∃ s A c a D d b, c0 = .bool s ∧ c1 = .slice A a.length c ∧ c2 = .slice D b.length d ∧ RW W W.heap.size A c a ∧ RW W W.heap.size D d b := by
  obtain ⟨xs, n, _, hx, _, hlen, hg⟩ := DataW.trod_struct Try.underlying25 h
  match xs, hlen with
  | [y0, y1, y2], _ =>
    subst hx
    have g0 := hg 0 _ rfl
    have g1 := hg 1 _ rfl
    have g2 := hg 2 _ rfl
    change DataW.trod enc Try.prog W 0 (fun _ => true) true n 4 (([c0, c1, c2].drop 0).take (Try.prog.cellsOf 4)) = some y0 at g0
    change DataW.trod enc Try.prog W 0 (fun _ => true) true n 23 (([c0, c1, c2].drop 1).take (Try.prog.cellsOf 23)) = some y1 at g1
    change DataW.trod enc Try.prog W 0 (fun _ => true) true n 23 (([c0, c1, c2].drop 2).take (Try.prog.cellsOf 23)) = some y2 at g2
    rw [cells_bool] at g0
    rw [cells_words] at g1 g2
    obtain ⟨s, h0, _⟩ := DataW.trod_bool Try.underlying4 (cs := [c0]) g0
    simp at h0
    have hs1 : ∀ es sp, y1.1 = .slice es sp → (es.length + sp.length) * Try.prog.bytesOf 53 ≤ reachBytes := fun es sp he =>
      by
        have h1 := bulk_slice es sp
        have h2 := hsz
        rw [← he] at h1
        have h3 : Rows.uptoBulk y1.1 ≤ _ := bulk_field (parts := [y0.1, y1.1, y2.1]) (by simp)
        simp only [List.map_cons, List.map_nil] at h2
        rw [bytesW]
        simp only [reachBytes]
        omega
    have hs2 : ∀ es sp, y2.1 = .slice es sp → (es.length + sp.length) * Try.prog.bytesOf 53 ≤ reachBytes := fun es sp he =>
      by
        have h1 := bulk_slice es sp
        have h2 := hsz
        rw [← he] at h1
        have h3 : Rows.uptoBulk y2.1 ≤ _ := bulk_field (parts := [y0.1, y1.1, y2.1]) (by simp)
        simp only [List.map_cons, List.map_nil] at h2
        rw [bytesW]
        simp only [reachBytes]
        omega
    obtain ⟨A, c, a, e1, r1⟩ := openW1 (c1 := c1) g1 hs1
    obtain ⟨D, d, b, e2, r2⟩ := openW1 (c1 := c2) g2 hs2
    exact ⟨s, A, c, a, D, d, b, h0, e1, e2, r1, r2⟩
theorem openN1 {fuel : Nat} {c0 c1 c2 c3 c4 c5 : Value} {y : DataW H × List MemPlace} (h : DataW.trod enc Try.prog W 0 (fun _ => true) true fuel 27 [c0, c1, c2, c3, c4, c5] = some y)
    (hsz : Rows.uptoBulk y.1 ≤ 1048576) : ∃ s1 A1 k1 a1 D1 d1 b1 s2 A2 k2 a2 D2 d2 b2, c0 = .bool s1 ∧ c1 = .slice A1 (a1 : List Nat).length k1 ∧ c2 = .slice D1 (b1 : List Nat).length d1 ∧ c3 = .bool s2 ∧ c4 = .slice A2 (a2 : List Nat).length k2 ∧ c5 = .slice D2 (b2 : List Nat).length d2 ∧
      RW W W.heap.size A1 k1 a1 ∧ RW W W.heap.size D1 d1 b1 ∧ RW W W.heap.size A2 k2 a2 ∧ RW W W.heap.size D2 d2 b2 := by
  obtain ⟨xs, n, _, hx, _, hlen, hg⟩ := DataW.trod_struct Try.underlying27 h
  match xs, hlen with
  | [y0, y1], _ =>
    subst hx
    have g0 := hg 0 _ rfl
    have g1 := hg 1 _ rfl
    change DataW.trod enc Try.prog W 0 (fun _ => true) true n 25 (([c0, c1, c2, c3, c4, c5].drop 0).take (Try.prog.cellsOf 25)) = some y0 at g0
    change DataW.trod enc Try.prog W 0 (fun _ => true) true n 25 (([c0, c1, c2, c3, c4, c5].drop 3).take (Try.prog.cellsOf 25)) = some y1 at g1
    rw [cells_rat] at g0 g1
    simp only [List.map_cons, List.map_nil] at hsz
    have hs0 : Rows.uptoBulk y0.1 ≤ 1048576 := Nat.le_trans (bulk_field (parts := [y0.1, y1.1]) (by simp)) hsz
    have hs1 : Rows.uptoBulk y1.1 ≤ 1048576 := Nat.le_trans (bulk_field (parts := [y0.1, y1.1]) (by simp)) hsz
    obtain ⟨s1, A1, k1, a1, D1, d1, b1, e0, e1, e2, r1, r2⟩ := openR1 (c0 := c0) (c1 := c1) (c2 := c2) g0 hs0
    obtain ⟨s2, A2, k2, a2, D2, d2, b2, e3, e4, e5, r3, r4⟩ := openR1 (c0 := c3) (c1 := c4) (c2 := c5) g1 hs1
    exact ⟨s1, A1, k1, a1, D1, d1, b1, s2, A2, k2, a2, D2, d2, b2, e0, e1, e2, e3, e4, e5, r1, r2, r3, r4⟩
theorem cells_numu : Try.prog.cellsOf 27 = 6 := by kernel_rfl
theorem openBu {r : Reach} {b0 : Nat} {v : Value} {d : DataW H} {p : List MemPlace} (hv : Value.okWide Try.prog W r b0 22 v) (h : DataW.Trod enc Try.prog W 0 (fun _ => true) true 22 v d p)
    (hsz : Rows.uptoBulk d ≤ 1048576) : ∃ (A : Option Addr) (c : Nat) (l : List UInt8), v = .slice A l.length c ∧ RB W W.heap.size A c l ∧ l.length ≤ 1048576 := by
  obtain ⟨a, len, cap, rfl⟩ := okWide_slice Try.underlying22 hv
  obtain ⟨l, hl, hr⟩ := openB h (fun es sp he => by
    have h1 := bulk_slice es sp
    rw [← he] at h1
    rw [bytesB]
    simp only [reachBytes]
    omega)
  obtain ⟨fuel, hf⟩ := h
  have hlen : len ≤ 1048576 := by
    rcases DataW.trod_slice Try.underlying22 (cs := [.slice a len cap]) hf with ⟨e, _⟩ | ⟨a', len', cap', elems, rest, n2, hn2, e, hx5, _, hlc, _, hel, helem, _⟩
    · simp only [List.cons.injEq, and_true, Value.slice.injEq] at e
      omega
    · simp only [List.cons.injEq, and_true, Value.slice.injEq] at e
      have hb5 := hsz
      simp only [Prod.mk.injEq] at hx5
      rw [hx5.1] at hb5
      have hlen5 := bulk_slice (elems.map (·.1)) (rest.map (·.1))
      simp only [List.length_map] at hlen5
      have := Nat.le_trans hlen5 hb5
      omega
  exact ⟨a, cap, l, by rw [hl], hr, by omega⟩
set_option maxRecDepth 100000 in
theorem openNs {r : Reach} {b0 : Nat} {v : Value} {d : DataW H} {p : List MemPlace} (hv : Value.okWide Try.prog W r b0 39 v) (h : DataW.Trod enc Try.prog W 0 (fun _ => true) true 39 v d p)
    (hsz : Rows.uptoBulk d ≤ 1048576) : ∃ (A : Option Addr) (c : Nat) (l : List (Rw × Rw)), v = .slice A l.length c ∧ NRd W (fun b => b < W.heap.size) A c l ∧ l.length ≤ 1048576 := by
  obtain ⟨a, len, cap, rfl⟩ := okWide_slice Try.underlying39 hv
  obtain ⟨fuel, hf⟩ := h
  rcases DataW.trod_slice Try.underlying39 (cs := [.slice a len cap]) hf with ⟨e, _⟩ | ⟨a', len', cap', elems, rest, n2, hn2, e, hx5, _, hlc, _, hel, helem, _⟩
  · simp only [List.cons.injEq, and_true, Value.slice.injEq] at e
    obtain ⟨rfl, rfl, rfl⟩ := e
    exact ⟨none, 0, [], rfl, RdE.nil _ _ _ _ _ _, by simp⟩
  · simp only [List.cons.injEq, and_true, Value.slice.injEq] at e
    obtain ⟨rfl, rfl, rfl⟩ := e
    have hb5 := hsz
    simp only [Prod.mk.injEq] at hx5
    rw [hx5.1] at hb5
    have hlen5 := bulk_slice (elems.map (·.1)) (rest.map (·.1))
    simp only [List.length_map] at hlen5
    have hlen6 := Nat.le_trans hlen5 hb5
    by_cases h0 : 0 < len
    · obtain ⟨ab, ao, asp⟩ := a'
      have hdat : ∀ i, i < len → ∃ (cs : CK 6) (d : Rw × Rw), (∀ j u, cs.1[j]? = some u → W.cell? ((⟨ab, ao, asp⟩ : Addr).add (i * 6 + j)) = some u) ∧ NE W (fun b => b < W.heap.size) cs.1 d := fun i hi => by
        have h6 := helem i hi
        rw [cells_numu] at h6
        rw [List.getElem?_eq_getElem (by omega)] at h6
        obtain ⟨cs', hc', ht'⟩ := Option.bind_eq_some_iff.1 h6
        obtain ⟨_, hcl, hcc⟩ := World.cells?_some hc'
        have hin : Rows.uptoBulk (elems[i]'(by omega)).1 ≤ 1048576 := Nat.le_trans (bulk_elem (List.mem_map.2 ⟨_, List.getElem_mem _, rfl⟩)) hb5
        match cs', hcl, ht', hcc with
        | [x0, x1, x2, x3, x4, x5], hcl, ht', hcc =>
        obtain ⟨s1, A1, k1, a1, D1, d1, b1, s2, A2, k2, a2, D2, d2, b2, rfl, rfl, rfl, rfl, rfl, rfl, r1, r2, r3, r4⟩ := openN1 (y := elems[i]'(by omega)) ht' hin
        refine ⟨⟨[.bool s1, .slice A1 a1.length k1, .slice D1 b1.length d1, .bool s2, .slice A2 a2.length k2, .slice D2 b2.length d2], rfl, by simp [Value.oneCell']⟩, (⟨s1, a1, b1⟩, ⟨s2, a2, b2⟩), fun j u hj => ?_, A1, k1, D1, d1, A2, k2, D2, d2, rfl, r1.wq, r2.wq, r3.wq, r4.wq⟩
        have hj6 : j < 6 := (List.getElem?_eq_some_iff.1 hj).1
        have := hcc j hj6
        rw [Go.Deep.add_add] at this
        rw [this, hj]
      have hspot : asp = none := by
        obtain ⟨cs, d, hcc, _⟩ := hdat 0 h0
        have hl := cs.2.1
        have := hcc 0 cs.1[0] (List.getElem?_eq_getElem (by omega))
        have := World.cell?_spot this
        simpa [Addr.add] using this
      subst hspot
      have hblk : ab < W.heap.size := by
        obtain ⟨cs, d, hcc, _⟩ := hdat 0 h0
        have hl := cs.2.1
        have := hcc 0 cs.1[0] (List.getElem?_eq_getElem (by omega))
        have := World.block_lt_of_cell? _ _ this
        simpa [Addr.add] using this
      have hex : ∀ k, k ≤ len → ∃ l : List (Rw × Rw), l.length = k ∧ ∀ (i : Nat) (x : Rw × Rw), l[i]? = some x → ∃ cs : CK 6, (∀ j u, cs.1[j]? = some u → W.cell? ⟨ab, ao + i * 6 + j, none⟩ = some u) ∧ NE W (fun b => b < W.heap.size) cs.1 x := by
        intro k
        induction k with
        | zero => exact fun _ => ⟨[], rfl, fun i x h => by simp at h⟩
        | succ k ih =>
          intro hk
          obtain ⟨l, hl, hx⟩ := ih (by omega)
          obtain ⟨cs, d, hc, hd⟩ := hdat k (by omega)
          refine ⟨l ++ [d], by simp [hl], fun i x hi => ?_⟩
          by_cases hik : i < k
          · rw [List.getElem?_append_left (by omega)] at hi
            exact hx i x hi
          · have hik2 : i = k := by
              have := (List.getElem?_eq_some_iff.1 hi).1
              rw [List.length_append, List.length_singleton] at this
              omega
            subst hik2
            rw [List.getElem?_append_right (by omega), hl, Nat.sub_self] at hi
            obtain rfl : d = x := by simpa using hi
            exact ⟨cs, fun j u hj => by
              have := hc j u hj
              rw [Addr.add_lit] at this
              rw [Nat.add_assoc]; exact this, hd⟩
      obtain ⟨l, hl, hr⟩ := hex len (Nat.le_refl _)
      exact ⟨some ⟨ab, ao, none⟩, cap, l, by rw [hl], ⟨by omega, fun _ => ⟨ab, ao, rfl, hblk, hr⟩⟩, by omega⟩
    · obtain rfl : len = 0 := by omega
      exact ⟨some a', cap, [], rfl, RdE.nil _ _ _ _ _ _, by simp⟩
end
end Go.Proofs.Ytabcnpcfknlmlaa
