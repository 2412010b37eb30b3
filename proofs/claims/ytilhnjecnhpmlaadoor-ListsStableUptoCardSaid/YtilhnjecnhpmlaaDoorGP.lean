/- Merged texts: Frame, FrameD, FrameL. -/
import Derived.Test.YtilhnjecnhpmlaaDoorGB
import Derived.ProofKit
import Derived.OpenShut
import Derived.ShutString
import Derived.ChangeOld
import Derived.Below
import Derived.SizedLaws
import Derived.Test.YtilhnjecnhpmlaaDoorGG
import Derived.Test.YtilhnjecnhpmlaaDoorRows
import Derived.Deep.Slices
import Derived.Test.YtilhnjecnhpmlaaDoorGJ
namespace Go.Proofs.YtilhnjecnhpmlaaDoor
open Go.ChangeShapes Go.WideShapes Go.ChangeAt Go.RowKit

theorem own_ : ownKnob Tryd.prog.godebug = none := by kernel_rfl
theorem laidOut_ : laidOutB Tryd.prog = true := by kernel_rfl
theorem bytesW : Tryd.prog.bytesOf 91 = 4 := by kernel_rfl

theorem openW {H : Type} {enc : TypeId × Value → H} {W : World} {a : Option Addr} {len cap : Nat} {d : DataW H} {p : List MemPlace}
    (h0 : DataW.Trod enc Tryd.prog W 0 (fun _ => true) true 24 (.slice a len cap) d p)
    (hsz : ∀ es sp, d = .slice es sp → (es.length + sp.length) * Tryd.prog.bytesOf 91 ≤ reachBytes) : ∃ l : List Nat, len = l.length ∧ RW W W.heap.size a cap l := by
  obtain ⟨fuel, hf⟩ := h0
  rcases open_ints Tryd.underlying24 Tryd.underlying91 (by kernel_rfl) hf with ⟨hcs, _⟩ | ⟨x, l, c, zs, hcs, _, hl, hm, hz, hx, hcell, hwz⟩
  · simp [Value.cells] at hcs
    obtain ⟨rfl, rfl, rfl⟩ := hcs
    exact ⟨[], rfl, RW.nil ..⟩
  · simp [Value.cells] at hcs
    obtain ⟨rfl, rfl, rfl⟩ := hcs
    simp only [Prod.mk.injEq] at hx
    have hb := hsz _ _ hx.1
    rw [bytesW] at hb
    simp only [lits, List.length_map, List.length_take, List.length_drop, reachBytes] at hb
    simp only [if_true] at hz
    have hzn : ∀ n ∈ zs, 0 ≤ n ∧ n ≤ 4294967295 := fun n hn => bounds_u32 (hwz n hn)
    refine ⟨(zs.take len).map Int.toNat, by simp; omega, ⟨by simp; omega, by simp; omega, fun hn => ?_⟩, ?_⟩
    · have hlen : 0 < zs.length := by simp at hn; omega
      obtain ⟨b, off, spot⟩ := x
      have hc0 := hcell 0 hlen
      have hspot : spot = none := by simpa [Addr.add] using World.cell?_spot hc0
      subst hspot
      refine ⟨b, off, rfl, ?_, fun k y hk => ?_⟩
      · have := World.block_lt_of_cell? _ _ hc0
        simpa [Addr.add] using this
      · rw [List.getElem?_map] at hk
        obtain ⟨z, hz1, rfl⟩ := Option.map_eq_some_iff.1 hk
        rw [List.getElem?_take] at hz1
        split at hz1
        · have hlt : k < zs.length := (List.getElem?_eq_some_iff.1 hz1).1
          have hc := hcell k hlt
          rw [Addr.add_lit] at hc
          rw [hc, List.getD_eq_getElem?_getD, hz1]
          have := hzn z (List.mem_of_getElem? hz1)
          show some (Value.int .u32 z) = some (.int .u32 ((z.toNat : Nat) : Int))
          rw [Int.toNat_of_nonneg this.1]
        · cases hz1
    · intro y hy
      obtain ⟨z, hz1, rfl⟩ := List.mem_map.1 hy
      have := hzn z (List.mem_of_mem_take hz1)
      omega
end Go.Proofs.YtilhnjecnhpmlaaDoor
namespace Go.Proofs.YtilhnjecnhpmlaaDoor
open Go.ChangeShapes Go.WideShapes Go.ChangeAt Go.RowKit

theorem bytesB : Tryd.prog.bytesOf 5 = 1 := by kernel_rfl
theorem openB {H : Type} {enc : TypeId × Value → H} {W : World} {a : Option Addr} {len cap : Nat} {d : DataW H} {p : List MemPlace}
    (h0 : DataW.Trod enc Tryd.prog W 0 (fun _ => true) true 29 (.slice a len cap) d p)
    (hsz : ∀ es sp, d = .slice es sp → es.length + sp.length ≤ 1048576) : ∃ l : List UInt8, len = l.length ∧ RB W W.heap.size a cap l := by
  obtain ⟨fuel, hf⟩ := h0
  rcases open_ints Tryd.underlying29 Tryd.underlying5 (by kernel_rfl) hf with ⟨hcs, _⟩ | ⟨x, l, c, zs, hcs, _, hl, hm, hz, hx, hcell, hwz⟩
  · simp [Value.cells] at hcs
    obtain ⟨rfl, rfl, rfl⟩ := hcs
    exact ⟨[], rfl, RL.nil ..⟩
  · simp [Value.cells] at hcs
    obtain ⟨rfl, rfl, rfl⟩ := hcs
    simp only [Prod.mk.injEq] at hx
    have hb := hsz _ _ hx.1
    simp only [lits, List.length_map, List.length_take, List.length_drop] at hb
    simp only [if_true] at hz
    have hzn : ∀ n ∈ zs, 0 ≤ n ∧ n ≤ 255 := fun n hn => bounds_u8 (hwz n hn)
    refine ⟨(zs.take len).map (fun z => UInt8.ofNat z.toNat), by simp; omega, by simp; omega, by simp; omega, fun hn => ?_⟩
    have hlen : 0 < zs.length := by simp at hn; omega
    obtain ⟨b, off, spot⟩ := x
    have hc0 := hcell 0 hlen
    have hspot : spot = none := by simpa [Addr.add] using World.cell?_spot hc0
    subst hspot
    refine ⟨b, off, rfl, ?_, fun k y hk => ?_⟩
    · have := World.block_lt_of_cell? _ _ hc0
      simpa [Addr.add] using this
    · rw [List.getElem?_map] at hk
      obtain ⟨z, hz1, rfl⟩ := Option.map_eq_some_iff.1 hk
      rw [List.getElem?_take] at hz1
      split at hz1
      · have hlt : k < zs.length := (List.getElem?_eq_some_iff.1 hz1).1
        have hc := hcell k hlt
        rw [Addr.add_lit] at hc
        rw [hc, List.getD_eq_getElem?_getD, hz1]
        have := hzn z (List.mem_of_getElem? hz1)
        show some (Value.int .u8 z) = some (.int .u8 (((UInt8.ofNat z.toNat).toNat : Nat) : Int))
        rw [UInt8.toNat_ofNat_of_lt' (show z.toNat < 256 by omega), Int.toNat_of_nonneg this.1]
      · cases hz1

theorem bulk_one {H : Type} (d : DataW H) : 1 ≤ Rows.uptoBulk d := by
  cases d with
  | lit l => cases l <;> simp [Rows.uptoBulk]
  | nil => simp [Rows.uptoBulk]
  | ptr d => simp [Rows.uptoBulk]
  | slice elems spare => simp [Rows.uptoBulk]
  | agg parts => simp [Rows.uptoBulk]
  | iface t d => simp [Rows.uptoBulk]
  | map entries => simp [Rows.uptoBulk]
  | held h => simp [Rows.uptoBulk]
theorem bulk_part {H : Type} {d : DataW H} {l : List (DataW H)} (h : d ∈ l) : Rows.uptoBulk d ≤ Rows.uptoBulkAll l := by
  induction l with
  | nil => cases h
  | cons x r ih =>
    simp only [Rows.uptoBulkAll]
    cases List.mem_cons.1 h with
    | inl e => subst e; omega
    | inr e => have := ih e; omega
theorem bulk_len {H : Type} (l : List (DataW H)) : l.length ≤ Rows.uptoBulkAll l := by
  induction l with
  | nil => simp [Rows.uptoBulkAll]
  | cons x r ih => have := bulk_one x; simp only [Rows.uptoBulkAll, List.length_cons]; omega
theorem bulk_slice {H : Type} (elems spare : List (DataW H)) : elems.length + spare.length + 1 ≤ Rows.uptoBulk (.slice elems spare) := by
  have h1 := bulk_len elems
  have h2 := bulk_len spare
  simp only [Rows.uptoBulk]
  omega
theorem bulk_elem {H : Type} {elems spare : List (DataW H)} {d : DataW H} (h : d ∈ elems) : Rows.uptoBulk d ≤ Rows.uptoBulk (.slice elems spare) := by
  have := bulk_part h
  simp only [Rows.uptoBulk]
  omega
theorem bulk_field {H : Type} {parts : List (DataW H)} {d : DataW H} (h : d ∈ parts) : Rows.uptoBulk d ≤ Rows.uptoBulk (.agg parts) := by
  have := bulk_part h
  simp only [Rows.uptoBulk]
  omega
section
variable {H : Type} {enc : TypeId × Value → H} {W : World}
theorem openW1 {fuel : Nat} {c1 : Value} {y : DataW H × List MemPlace} (h : DataW.trod enc Tryd.prog W 0 (fun _ => true) true fuel 24 [c1] = some y)
    (hsz : ∀ es sp, y.1 = .slice es sp → (es.length + sp.length) * Tryd.prog.bytesOf 91 ≤ reachBytes) : ∃ A c l, c1 = .slice A l.length c ∧ RW W W.heap.size A c l := by
  obtain ⟨a, len, cap, rfl⟩ : ∃ a len cap, c1 = .slice a len cap := by
    rcases open_ints Tryd.underlying24 Tryd.underlying91 (by kernel_rfl) h with ⟨hcs, _⟩ | ⟨x, l, c, zs, hcs, _⟩
    · simp at hcs; exact ⟨_, _, _, hcs⟩
    · simp at hcs; exact ⟨_, _, _, hcs⟩
  obtain ⟨l, rfl, hr⟩ := openW (d := y.1) (p := y.2) ⟨fuel, h⟩ hsz
  exact ⟨a, cap, l, rfl, hr⟩
theorem cells_bool : Tryd.prog.cellsOf 4 = 1 := by kernel_rfl
theorem cells_words : Tryd.prog.cellsOf 24 = 1 := by kernel_rfl
theorem cells_rat : Tryd.prog.cellsOf 26 = 3 := by kernel_rfl
set_option maxRecDepth 100000 in
theorem openR1 {fuel : Nat} {c0 c1 c2 : Value} {y : DataW H × List MemPlace} (h : DataW.trod enc Tryd.prog W 0 (fun _ => true) true fuel 26 [c0, c1, c2] = some y)
    (hsz : Rows.uptoBulk y.1 ≤ 1048576) : ∃ s A c a D d b, c0 = .bool s ∧ c1 = .slice A a.length c ∧ c2 = .slice D b.length d ∧ RW W W.heap.size A c a ∧ RW W W.heap.size D d b := by
  obtain ⟨xs, n, _, hx, _, hlen, hg⟩ := DataW.trod_struct Tryd.underlying26 h
  match xs, hlen with
  | [y0, y1, y2], _ =>
    subst hx
    have g0 := hg 0 _ rfl
    have g1 := hg 1 _ rfl
    have g2 := hg 2 _ rfl
    change DataW.trod enc Tryd.prog W 0 (fun _ => true) true n 4 (([c0, c1, c2].drop 0).take (Tryd.prog.cellsOf 4)) = some y0 at g0
    change DataW.trod enc Tryd.prog W 0 (fun _ => true) true n 24 (([c0, c1, c2].drop 1).take (Tryd.prog.cellsOf 24)) = some y1 at g1
    change DataW.trod enc Tryd.prog W 0 (fun _ => true) true n 24 (([c0, c1, c2].drop 2).take (Tryd.prog.cellsOf 24)) = some y2 at g2
    rw [cells_bool] at g0
    rw [cells_words] at g1 g2
    obtain ⟨s, h0, _⟩ := DataW.trod_bool Tryd.underlying4 (cs := [c0]) g0
    simp at h0
    have hs1 : ∀ es sp, y1.1 = .slice es sp → (es.length + sp.length) * Tryd.prog.bytesOf 91 ≤ reachBytes := fun es sp he =>
      by
        have h1 := bulk_slice es sp
        have h2 := hsz
        rw [← he] at h1
        have h3 : Rows.uptoBulk y1.1 ≤ _ := bulk_field (parts := [y0.1, y1.1, y2.1]) (by simp)
        simp only [List.map_cons, List.map_nil] at h2
        rw [bytesW]
        simp only [reachBytes]
        omega
    have hs2 : ∀ es sp, y2.1 = .slice es sp → (es.length + sp.length) * Tryd.prog.bytesOf 91 ≤ reachBytes := fun es sp he =>
      by
        have h1 := bulk_slice es sp
        have h2 := hsz
        rw [← he] at h1
        have h3 : Rows.uptoBulk y2.1 ≤ _ := bulk_field (parts := [y0.1, y1.1, y2.1]) (by simp)
        simp only [List.map_cons, List.map_nil] at h2
        rw [bytesW]
        simp only [reachBytes]
        omega
    obtain ⟨A, c, a, e1, r1⟩ := openW1 (c1 := c1) g1 hs1
    obtain ⟨D, d, b, e2, r2⟩ := openW1 (c1 := c2) g2 hs2
    exact ⟨s, A, c, a, D, d, b, h0, e1, e2, r1, r2⟩
set_option maxRecDepth 100000 in
theorem openB1 {fuel : Nat} {c1 : Value} {y : DataW H × List MemPlace} (h : DataW.trod enc Tryd.prog W 0 (fun _ => true) true fuel 29 [c1] = some y)
    (hsz : Rows.uptoBulk y.1 ≤ 1048576) : ∃ A c l, c1 = .slice A l.length c ∧ RB W W.heap.size A c l := by
  obtain ⟨a, len, cap, rfl⟩ : ∃ a len cap, c1 = .slice a len cap := by
    rcases open_ints Tryd.underlying29 Tryd.underlying5 (by kernel_rfl) h with ⟨hcs, _⟩ | ⟨x, l, c, zs, hcs, _⟩
    · simp at hcs; exact ⟨_, _, _, hcs⟩
    · simp at hcs; exact ⟨_, _, _, hcs⟩
  obtain ⟨l, rfl, hr⟩ := openB (d := y.1) (p := y.2) ⟨fuel, h⟩ (fun es sp he => by
    have h1 := bulk_slice es sp
    rw [← he] at h1
    omega)
  exact ⟨a, cap, l, rfl, hr⟩
theorem openN1 {fuel : Nat} {c0 c1 c2 c3 c4 c5 : Value} {y : DataW H × List MemPlace} (h : DataW.trod enc Tryd.prog W 0 (fun _ => true) true fuel 28 [c0, c1, c2, c3, c4, c5] = some y)
    (hsz : Rows.uptoBulk y.1 ≤ 1048576) : ∃ s1 A1 k1 a1 D1 d1 b1 s2 A2 k2 a2 D2 d2 b2, c0 = .bool s1 ∧ c1 = .slice A1 (a1 : List Nat).length k1 ∧ c2 = .slice D1 (b1 : List Nat).length d1 ∧ c3 = .bool s2 ∧ c4 = .slice A2 (a2 : List Nat).length k2 ∧ c5 = .slice D2 (b2 : List Nat).length d2 ∧
      RW W W.heap.size A1 k1 a1 ∧ RW W W.heap.size D1 d1 b1 ∧ RW W W.heap.size A2 k2 a2 ∧ RW W W.heap.size D2 d2 b2 := by
  obtain ⟨xs, n, _, hx, _, hlen, hg⟩ := DataW.trod_struct Tryd.underlying28 h
  match xs, hlen with
  | [y0, y1], _ =>
    subst hx
    have g0 := hg 0 _ rfl
    have g1 := hg 1 _ rfl
    change DataW.trod enc Tryd.prog W 0 (fun _ => true) true n 26 (([c0, c1, c2, c3, c4, c5].drop 0).take (Tryd.prog.cellsOf 26)) = some y0 at g0
    change DataW.trod enc Tryd.prog W 0 (fun _ => true) true n 26 (([c0, c1, c2, c3, c4, c5].drop 3).take (Tryd.prog.cellsOf 26)) = some y1 at g1
    rw [cells_rat] at g0 g1
    simp only [List.map_cons, List.map_nil] at hsz
    have hs0 : Rows.uptoBulk y0.1 ≤ 1048576 := Nat.le_trans (bulk_field (parts := [y0.1, y1.1]) (by simp)) hsz
    have hs1 : Rows.uptoBulk y1.1 ≤ 1048576 := Nat.le_trans (bulk_field (parts := [y0.1, y1.1]) (by simp)) hsz
    obtain ⟨s1, A1, k1, a1, D1, d1, b1, e0, e1, e2, r1, r2⟩ := openR1 (c0 := c0) (c1 := c1) (c2 := c2) g0 hs0
    obtain ⟨s2, A2, k2, a2, D2, d2, b2, e3, e4, e5, r3, r4⟩ := openR1 (c0 := c3) (c1 := c4) (c2 := c5) g1 hs1
    exact ⟨s1, A1, k1, a1, D1, d1, b1, s2, A2, k2, a2, D2, d2, b2, e0, e1, e2, e3, e4, e5, r1, r2, r3, r4⟩
theorem cells_int : Tryd.prog.cellsOf 3 = 1 := by kernel_rfl
theorem cells_str : Tryd.prog.cellsOf 9 = 1 := by kernel_rfl
theorem cells_num : Tryd.prog.cellsOf 28 = 6 := by kernel_rfl
theorem cells_bytes : Tryd.prog.cellsOf 29 = 1 := by kernel_rfl
theorem cells_data : Tryd.prog.cellsOf 22 = 1 := by kernel_rfl
theorem cells_dat : Tryd.prog.cellsOf 31 = 11 := by kernel_rfl
theorem RDs_of {B : Nat} {b : Nat} : ∀ (n off : Nat), (∀ i, i < n → ∃ (cs : List Value) (d : Dat), cs.length = 11 ∧ (∀ j u, cs[j]? = some u → W.cell? ⟨b, off + i * 11 + j, none⟩ = some u) ∧ RD W B d (.agg cs.toArray)) → ∃ l : List Dat, l.length = n ∧ RDs W B l b off
  | 0, off, _ => ⟨[], rfl, by rw [RDs]; trivial⟩
  | n + 1, off, h => by
    obtain ⟨cs, d, _, hc, hd⟩ := h 0 (by omega)
    obtain ⟨l, hl, hr⟩ := RDs_of (B := B) (b := b) n (off + 11) (fun i hi => by
      obtain ⟨cs, d, h0, h1, h2⟩ := h (i + 1) (by omega)
      exact ⟨cs, d, h0, fun j u hj => by rw [show off + 11 + i * 11 + j = off + (i + 1) * 11 + j by omega]; exact h1 j u hj, h2⟩)
    refine ⟨d :: l, by simp [hl], ?_⟩
    rw [RDs]
    refine ⟨⟨_, hd, fun cs' e j u hj => ?_⟩, hr⟩
    have e2 := Value.agg.inj e
    rw [← e2] at hj
    have := hc j u (by simpa using hj)
    simpa using this
theorem openD : ∀ (fuel : Nat) (cs : List Value) (y : DataW H × List MemPlace), DataW.trod enc Tryd.prog W 0 (fun _ => true) true fuel 31 cs = some y → Rows.uptoBulk y.1 ≤ 1048576 → cs.length = 11 → ∃ d : Dat, RD W W.heap.size d (.agg cs.toArray) := by
  intro fuel
  induction fuel using Nat.strongRecOn with
  | _ fuel ih =>
  intro cs y h hsz hl
  match cs, hl with
  | [c0, c1, c2, c3, c4, c5, c6, c7, c8, c9, c10], _ =>
  obtain ⟨xs, n, hfn, hx, _, hlen, hg⟩ := DataW.trod_struct Tryd.underlying31 h
  match xs, hlen with
  | [y0, y1, y2, y3, y4, y5], _ =>
  subst hx
  have g0 := hg 0 _ rfl
  have g1 := hg 1 _ rfl
  have g2 := hg 2 _ rfl
  have g3 := hg 3 _ rfl
  have g4 := hg 4 _ rfl
  have g5 := hg 5 _ rfl
  change DataW.trod enc Tryd.prog W 0 (fun _ => true) true n 3 (([c0, c1, c2, c3, c4, c5, c6, c7, c8, c9, c10].drop 0).take (Tryd.prog.cellsOf 3)) = some y0 at g0
  change DataW.trod enc Tryd.prog W 0 (fun _ => true) true n 3 (([c0, c1, c2, c3, c4, c5, c6, c7, c8, c9, c10].drop 1).take (Tryd.prog.cellsOf 3)) = some y1 at g1
  change DataW.trod enc Tryd.prog W 0 (fun _ => true) true n 28 (([c0, c1, c2, c3, c4, c5, c6, c7, c8, c9, c10].drop 2).take (Tryd.prog.cellsOf 28)) = some y2 at g2
  change DataW.trod enc Tryd.prog W 0 (fun _ => true) true n 9 (([c0, c1, c2, c3, c4, c5, c6, c7, c8, c9, c10].drop 8).take (Tryd.prog.cellsOf 9)) = some y3 at g3
  change DataW.trod enc Tryd.prog W 0 (fun _ => true) true n 29 (([c0, c1, c2, c3, c4, c5, c6, c7, c8, c9, c10].drop 9).take (Tryd.prog.cellsOf 29)) = some y4 at g4
  change DataW.trod enc Tryd.prog W 0 (fun _ => true) true n 22 (([c0, c1, c2, c3, c4, c5, c6, c7, c8, c9, c10].drop 10).take (Tryd.prog.cellsOf 22)) = some y5 at g5
  rw [cells_int] at g0 g1
  rw [cells_num] at g2
  rw [cells_str] at g3
  rw [cells_bytes] at g4
  rw [cells_data] at g5
  simp only [List.map_cons, List.map_nil] at hsz
  have hb : ∀ q ∈ [y0.1, y1.1, y2.1, y3.1, y4.1, y5.1], Rows.uptoBulk q ≤ 1048576 := fun q hq => Nat.le_trans (bulk_field hq) hsz
  obtain ⟨k, h0, _, w0⟩ := DataW.trod_int Tryd.underlying3 (cs := [c0]) g0
  obtain ⟨m, h1, _, w1⟩ := DataW.trod_int Tryd.underlying3 (cs := [c1]) g1
  obtain ⟨s1, A1, k1, a1, D1, d1, b1, s2, A2, k2, a2, D2, d2, b2, e0, e1, e2, e3, e4, e5, r1, r2, r3, r4⟩ := openN1 (c0 := c2) (c1 := c3) (c2 := c4) (c3 := c5) (c4 := c6) (c5 := c7) g2 (hb _ (by simp))
  obtain ⟨s, h3, hx3, _⟩ := DataW.trod_string Tryd.underlying9 (cs := [c8]) g3
  obtain ⟨R, rc, raw, e9, r5⟩ := openB1 (c1 := c9) g4 (hb _ (by simp))
  have hsz8 : s.size ≤ 1048576 := by
    have := hb y3.1 (by simp)
    rw [hx3] at this
    simp only [Rows.uptoBulk, Array.length_toList] at this
    have e : s.size = s.data.size := rfl
    omega
  have hk := bounds_i64 w0
  have hm := bounds_i64 w1
  simp only [List.cons.injEq, and_true] at h0 h1 h3
  subst h0 h1 h3 e0 e1 e2 e3 e4 e5 e9
  have hL : ∃ (L : Option Addr) (lc : Nat) (l : List Dat), c10 = .slice L l.length lc ∧ (l.length ≤ lc ∧ l.length ≤ 35184372088832) ∧ (0 < l.length → ∃ b off, L = some ⟨b, off, none⟩ ∧ b < W.heap.size ∧ RDs W W.heap.size l b off) := by
    rcases DataW.trod_slice Tryd.underlying22 (cs := [c10]) g5 with ⟨e, _⟩ | ⟨a, len, cap, elems, rest, n2, hn2, e, hx5, _, hlc, _, hel, helem, _⟩
    · simp only [List.cons.injEq, and_true] at e
      exact ⟨none, 0, [], e, by simp, fun h => by simp at h⟩
    · simp only [List.cons.injEq, and_true] at e
      have hb5 := hb y5.1 (by simp)
      rw [hx5] at hb5
      replace hb5 : Rows.uptoBulk (.slice (elems.map (·.1)) (rest.map (·.1))) ≤ 1048576 := hb5
      have hlen5 := bulk_slice (elems.map (·.1)) (rest.map (·.1))
      simp only [List.length_map] at hlen5
      by_cases h0 : 0 < len
      · obtain ⟨ab, ao, asp⟩ := a
        have hdat : ∀ i, i < len → ∃ (cs : List Value) (d : Dat), cs.length = 11 ∧ (∀ j u, cs[j]? = some u → W.cell? ((⟨ab, ao, asp⟩ : Addr).add (i * 11 + j)) = some u) ∧ RD W W.heap.size d (.agg cs.toArray) := fun i hi => by
          have h6 := helem i hi
          rw [cells_dat] at h6
          rw [List.getElem?_eq_getElem (by omega)] at h6
          obtain ⟨cs', hc', ht'⟩ := Option.bind_eq_some_iff.1 h6
          obtain ⟨_, hcl, hcc⟩ := World.cells?_some hc'
          have hin : Rows.uptoBulk (elems[i]'(by omega)).1 ≤ 1048576 := Nat.le_trans (bulk_elem (List.mem_map.2 ⟨_, List.getElem_mem _, rfl⟩)) hb5
          obtain ⟨d, hd⟩ := ih n2 (by omega) cs' _ ht' hin hcl
          exact ⟨cs', d, hcl, fun j u hj => by
            have hj11 : j < 11 := by rw [← hcl]; exact (List.getElem?_eq_some_iff.1 hj).1
            have := hcc j hj11
            rw [Go.Deep.add_add] at this
            rw [this, hj], hd⟩
        have hspot : asp = none := by
          obtain ⟨cs, d, hcl, hcc, _⟩ := hdat 0 h0
          have := hcc 0 cs[0] (List.getElem?_eq_getElem (by omega))
          have := World.cell?_spot this
          simpa [Addr.add] using this
        subst hspot
        have hblk : ab < W.heap.size := by
          obtain ⟨cs, d, hcl, hcc, _⟩ := hdat 0 h0
          have := hcc 0 cs[0] (List.getElem?_eq_getElem (by omega))
          have := World.block_lt_of_cell? _ _ this
          simpa [Addr.add] using this
        obtain ⟨l, hl, hr⟩ := RDs_of (W := W) (B := W.heap.size) (b := ab) len ao (fun i hi => by
          obtain ⟨cs, d, h1, h2, h3⟩ := hdat i hi
          exact ⟨cs, d, h1, fun j u hj => by
            have := h2 j u hj
            rw [Addr.add_lit] at this
            rw [Nat.add_assoc]; exact this, h3⟩)
        exact ⟨some ⟨ab, ao, none⟩, cap, l, by rw [hl]; exact e, by omega, fun _ => ⟨ab, ao, rfl, hblk, hr⟩⟩
      · obtain rfl : len = 0 := by omega
        exact ⟨some a, cap, [], e, by simp, fun h => by simp at h⟩
  obtain ⟨L, lc, l, rfl, hl1, hl2⟩ := hL
  exact ⟨.mk k m ⟨s1, a1, b1⟩ ⟨s2, a2, b2⟩ s raw l, by
    rw [RD]
    exact ⟨A1, k1, D1, d1, A2, k2, D2, d2, R, rc, L, lc, rfl, ⟨r1, r2, r3, r4, r5⟩, ⟨hk, hm, hsz8⟩, hl1, hl2⟩⟩
set_option maxRecDepth 100000 in
/-- a datum as it comes in -/
theorem openDat {r : Reach} {b0 : Nat} {v : Value} {d : DataW H} {p : List MemPlace} (hv : Value.okWide Tryd.prog W r b0 31 v) (h : DataW.Trod enc Tryd.prog W 0 (fun _ => true) true 31 v d p)
    (hsz : Rows.uptoBulk d ≤ 1048576) : ∃ x : Dat, RD W W.heap.size x v := by
  obtain ⟨cs, rfl, hn⟩ := okWide_struct Tryd.underlying31 hv
  obtain ⟨fuel, hf⟩ := h
  have hn : cs.toList.length = 11 := by rw [Array.length_toList]; exact hn.trans cells_dat
  obtain ⟨x, hx⟩ := openD fuel cs.toList _ hf hsz hn
  exact ⟨x, by simpa using hx⟩
end
end Go.Proofs.YtilhnjecnhpmlaaDoor
namespace Go.Proofs.YtilhnjecnhpmlaaDoor
open Go.ChangeShapes Go.WideShapes Go.ChangeAt Go.RowKit

section
variable {H : Type} {enc : TypeId × Value → H} {W : World}
theorem openDs1 {fuel : Nat} {v : Value} {y : DataW H × List MemPlace} (h : DataW.trod enc Tryd.prog W 0 (fun _ => true) true fuel 22 [v] = some y) (hsz : Rows.uptoBulk y.1 ≤ 1048576) :
    ∃ (L : Option Addr) (lc : Nat) (l : List Dat), v = .slice L l.length lc ∧ (l.length ≤ lc ∧ l.length ≤ 1048576) ∧ (0 < l.length → ∃ b off, L = some ⟨b, off, none⟩ ∧ b < W.heap.size ∧ RDs W W.heap.size l b off) := by
  rcases DataW.trod_slice Tryd.underlying22 (cs := [v]) h with ⟨e, _⟩ | ⟨a, len, cap, elems, rest, n2, hn2, e, hx5, _, hlc, _, hel, helem, _⟩
  · simp only [List.cons.injEq, and_true] at e
    exact ⟨none, 0, [], e, by simp, fun h => by simp at h⟩
  · simp only [List.cons.injEq, and_true] at e
    have hb5 := hsz
    rw [hx5] at hb5
    replace hb5 : Rows.uptoBulk (.slice (elems.map (·.1)) (rest.map (·.1))) ≤ 1048576 := hb5
    have hlen5 := bulk_slice (elems.map (·.1)) (rest.map (·.1))
    simp only [List.length_map] at hlen5
    by_cases h0 : 0 < len
    · obtain ⟨ab, ao, asp⟩ := a
      have hdat : ∀ i, i < len → ∃ (cs : List Value) (d : Dat), cs.length = 11 ∧ (∀ j u, cs[j]? = some u → W.cell? ((⟨ab, ao, asp⟩ : Addr).add (i * 11 + j)) = some u) ∧ RD W W.heap.size d (.agg cs.toArray) := fun i hi => by
        have h6 := helem i hi
        rw [cells_dat] at h6
        rw [List.getElem?_eq_getElem (by omega)] at h6
        obtain ⟨cs', hc', ht'⟩ := Option.bind_eq_some_iff.1 h6
        obtain ⟨_, hcl, hcc⟩ := World.cells?_some hc'
        have hin : Rows.uptoBulk (elems[i]'(by omega)).1 ≤ 1048576 := Nat.le_trans (bulk_elem (List.mem_map.2 ⟨_, List.getElem_mem _, rfl⟩)) hb5
        obtain ⟨d, hd⟩ := openD n2 cs' _ ht' hin hcl
        exact ⟨cs', d, hcl, fun j u hj => by
          have hj11 : j < 11 := by rw [← hcl]; exact (List.getElem?_eq_some_iff.1 hj).1
          have := hcc j hj11
          rw [Go.Deep.add_add] at this
          rw [this, hj], hd⟩
      have hspot : asp = none := by
        obtain ⟨cs, d, hcl, hcc, _⟩ := hdat 0 h0
        have := hcc 0 cs[0] (List.getElem?_eq_getElem (by omega))
        have := World.cell?_spot this
        simpa [Addr.add] using this
      subst hspot
      have hblk : ab < W.heap.size := by
        obtain ⟨cs, d, hcl, hcc, _⟩ := hdat 0 h0
        have := hcc 0 cs[0] (List.getElem?_eq_getElem (by omega))
        have := World.block_lt_of_cell? _ _ this
        simpa [Addr.add] using this
      obtain ⟨l, hl, hr⟩ := RDs_of (W := W) (B := W.heap.size) (b := ab) len ao (fun i hi => by
        obtain ⟨cs, d, h1, h2, h3⟩ := hdat i hi
        exact ⟨cs, d, h1, fun j u hj => by
          have := h2 j u hj
          rw [Addr.add_lit] at this
          rw [Nat.add_assoc]; exact this, h3⟩)
      exact ⟨some ⟨ab, ao, none⟩, cap, l, by rw [hl]; exact e, by omega, fun _ => ⟨ab, ao, rfl, hblk, hr⟩⟩
    · obtain rfl : len = 0 := by omega
      exact ⟨some a, cap, [], e, by simp, fun h => by simp at h⟩
set_option maxRecDepth 100000 in
theorem openDs {r : Reach} {b0 : Nat} {v : Value} {d : DataW H} {p : List MemPlace} (hv : Value.okWide Tryd.prog W r b0 22 v) (h : DataW.Trod enc Tryd.prog W 0 (fun _ => true) true 22 v d p)
    (hsz : Rows.uptoBulk d ≤ 1048576) : ∃ (A : Option Addr) (c : Nat) (l : List Dat), v = .slice A l.length c ∧ RLs W (fun b => b < W.heap.size) A c l ∧ l.length ≤ 1048576 := by
  obtain ⟨a, len, cap, rfl⟩ := okWide_slice Tryd.underlying22 hv
  obtain ⟨fuel, hf⟩ := h
  obtain ⟨A, c, l, e, ⟨h1, h2⟩, h3⟩ := openDs1 (y := (d, p)) (fuel := fuel) hf hsz
  refine ⟨A, c, l, e, ⟨h1, by omega, fun h0 => ?_⟩, h2⟩
  obtain ⟨b, off, e1, e2, e3⟩ := h3 h0
  exact ⟨b, off, e1, e2, RDs.rdp e3⟩
end
end Go.Proofs.YtilhnjecnhpmlaaDoor
