/- Arguments as they come in: numbers. -/
import Derived.Test.YtkjfpaommbjgbaaFrame
import Derived.Test.YtkjfpaommbjgbaaGF
namespace Go.Proofs.Ytkjfpaommbjgbaa
open Go.ChangeShapes Go.WideShapes Go.ChangeAt Go.RowKit

section
variable {H : Type} {enc : TypeId × Value → H} {W : World}
theorem openW1 {fuel : Nat} {c1 : Value} {y : DataW H × List MemPlace} (h : DataW.trod enc Try.prog W 0 (fun _ => true) true fuel 22 [c1] = some y)
    (hsz : ∀ es sp, y.1 = .slice es sp → (es.length + sp.length) * Try.prog.bytesOf 52 ≤ reachBytes) : ∃ A c l, c1 = .slice A l.length c ∧ RW W W.heap.size A c l := by
  obtain ⟨a, len, cap, rfl⟩ : ∃ a len cap, c1 = .slice a len cap := by
    rcases open_ints Try.underlying22 Try.underlying52 (by kernel_rfl) h with ⟨hcs, _⟩ | ⟨x, l, c, zs, hcs, _⟩
    · simp at hcs; exact ⟨_, _, _, hcs⟩
    · simp at hcs; exact ⟨_, _, _, hcs⟩
  obtain ⟨l, rfl, hr⟩ := openW (d := y.1) (p := y.2) ⟨fuel, h⟩ hsz
  exact ⟨a, cap, l, rfl, hr⟩
theorem cells_bool : Try.prog.cellsOf 4 = 1 := by kernel_rfl
theorem cells_words : Try.prog.cellsOf 22 = 1 := by kernel_rfl
theorem cells_rat : Try.prog.cellsOf 24 = 3 := by kernel_rfl
set_option maxRecDepth 100000 in
theorem openR1 {fuel : Nat} {c0 c1 c2 : Value} {y : DataW H × List MemPlace} (h : DataW.trod enc Try.prog W 0 (fun _ => true) true fuel 24 [c0, c1, c2] = some y)
    (hsz : ∀ n ∈ DataW.weights Try.prog 24 y.1, n ≤ reachBytes) : ∃ s A c a D d b, c0 = .bool s ∧ c1 = .slice A a.length c ∧ c2 = .slice D b.length d ∧ RW W W.heap.size A c a ∧ RW W W.heap.size D d b := by
  obtain ⟨xs, n, _, hx, _, hlen, hg⟩ := DataW.trod_struct Try.underlying24 h
  match xs, hlen with
  | [y0, y1, y2], _ =>
    subst hx
    have g0 := hg 0 _ rfl
    have g1 := hg 1 _ rfl
    have g2 := hg 2 _ rfl
    change DataW.trod enc Try.prog W 0 (fun _ => true) true n 4 (([c0, c1, c2].drop 0).take (Try.prog.cellsOf 4)) = some y0 at g0
    change DataW.trod enc Try.prog W 0 (fun _ => true) true n 22 (([c0, c1, c2].drop 1).take (Try.prog.cellsOf 22)) = some y1 at g1
    change DataW.trod enc Try.prog W 0 (fun _ => true) true n 22 (([c0, c1, c2].drop 2).take (Try.prog.cellsOf 22)) = some y2 at g2
    rw [cells_bool] at g0
    rw [cells_words] at g1 g2
    obtain ⟨s, h0, _⟩ := DataW.trod_bool Try.underlying4 (cs := [c0]) g0
    simp at h0
    have hs1 : ∀ es sp, y1.1 = .slice es sp → (es.length + sp.length) * Try.prog.bytesOf 52 ≤ reachBytes := fun es sp he =>
      hsz _ (by simp [DataW.weights, DataW.weightsEach, Try.underlying24, Try.underlying22, he])
    have hs2 : ∀ es sp, y2.1 = .slice es sp → (es.length + sp.length) * Try.prog.bytesOf 52 ≤ reachBytes := fun es sp he =>
      hsz _ (by simp [DataW.weights, DataW.weightsEach, Try.underlying24, Try.underlying22, he])
    obtain ⟨A, c, a, e1, r1⟩ := openW1 (c1 := c1) g1 hs1
    obtain ⟨D, d, b, e2, r2⟩ := openW1 (c1 := c2) g2 hs2
    exact ⟨s, A, c, a, D, d, b, h0, e1, e2, r1, r2⟩
set_option maxRecDepth 100000 in
theorem openN {r : Reach} {b0 : Nat} {v : Value} {d : DataW H} {p : List MemPlace} (hv : Value.okWide Try.prog W r b0 26 v) (h : DataW.Trod enc Try.prog W 0 (fun _ => true) true 26 v d p)
    (hsz : ∀ n ∈ DataW.weights Try.prog 26 d, n ≤ reachBytes) : ∃ x i, VN W W.heap.size v x i := by
  obtain ⟨cs, rfl, hn⟩ := okWide_struct Try.underlying26 hv
  obtain ⟨l⟩ := cs
  match l, hn.trans (show Try.prog.cellsOf 26 = 6 by kernel_rfl) with
  | [c0, c1, c2, c3, c4, c5], _ =>
    obtain ⟨fuel, hf⟩ := h
    obtain ⟨xs, n, _, hx, _, hlen, hg⟩ := DataW.trod_struct Try.underlying26 hf
    match xs, hlen with
    | [y0, y1], _ =>
      simp only [Prod.mk.injEq] at hx
      obtain ⟨rfl, _⟩ := hx
      have g0 := hg 0 _ rfl
      have g1 := hg 1 _ rfl
      change DataW.trod enc Try.prog W 0 (fun _ => true) true n 24 (([c0, c1, c2, c3, c4, c5].drop 0).take (Try.prog.cellsOf 24)) = some y0 at g0
      change DataW.trod enc Try.prog W 0 (fun _ => true) true n 24 (([c0, c1, c2, c3, c4, c5].drop 3).take (Try.prog.cellsOf 24)) = some y1 at g1
      rw [cells_rat] at g0 g1
      have hs0 : ∀ k ∈ DataW.weights Try.prog 24 y0.1, k ≤ reachBytes := fun k hk => hsz k (by
        simp only [DataW.weights, Try.underlying26]
        simp [DataW.weightsEach, hk])
      have hs1 : ∀ k ∈ DataW.weights Try.prog 24 y1.1, k ≤ reachBytes := fun k hk => hsz k (by
        simp only [DataW.weights, Try.underlying26]
        simp [DataW.weightsEach, hk])
      obtain ⟨s1, A1, k1, a1, D1, d1, b1, e0, e1, e2, r1, r2⟩ := openR1 (c0 := c0) (c1 := c1) (c2 := c2) g0 hs0
      obtain ⟨s2, A2, k2, a2, D2, d2, b2, e3, e4, e5, r3, r4⟩ := openR1 (c0 := c3) (c1 := c4) (c2 := c5) g1 hs1
      subst e0 e1 e2 e3 e4 e5
      exact ⟨⟨s1, a1, b1⟩, ⟨s2, a2, b2⟩, A1, k1, D1, d1, A2, k2, D2, d2, rfl, r1, r2, r3, r4⟩
end
end Go.Proofs.Ytkjfpaommbjgbaa
