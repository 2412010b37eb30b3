/- Arguments as they come in: slices of strings, of bools. -/
import Derived.Test.YtmgblmdilepkpaaEnA
import Derived.ProofKit
import Derived.OpenShut
import Derived.ShutString
import Derived.ChangeOld
import Derived.Below
import Derived.SizedLaws
import Derived.Deep.Strs
import Derived.Deep.Grids
namespace Go.Proofs.Ytmgblmdilepkpaa
open Go.ChangeShapes Go.WideShapes Go.ChangeAt Go.RowKit

theorem own_ : ownKnob Try.prog.godebug = none := by kernel_rfl
theorem laidOut_ : laidOutB Try.prog = true := by kernel_rfl
theorem bytesT : Try.prog.bytesOf 9 = 16 := by kernel_rfl
theorem bytesL : Try.prog.bytesOf 4 = 1 := by kernel_rfl
theorem rl_of {α : Type} {f : α → Value} {W : World} {x : Addr} {len cap : Nat} {g : Nat → α} (hb : len ≤ 140737488351232) (hl : len ≤ cap) (hc : ∀ i, i < len → W.cell? (x.add i) = some (f (g i))) :
    RL f W W.heap.size (some x) cap ((List.range len).map g) := by
  refine ⟨by simpa using hl, by simpa using hb, fun hn => ?_⟩
  have hlen : 0 < len := by simpa using hn
  obtain ⟨b, off, spot⟩ := x
  have hc0 := hc 0 hlen
  have hspot : spot = none := by simpa [Addr.add] using World.cell?_spot hc0
  subst hspot
  refine ⟨b, off, rfl, ?_, fun k y hk => ?_⟩
  · have := World.block_lt_of_cell? _ _ hc0
    simpa [Addr.add] using this
  · rw [List.getElem?_map] at hk
    obtain ⟨z, hz1, rfl⟩ := Option.map_eq_some_iff.1 hk
    obtain ⟨h1, h2⟩ := List.getElem?_eq_some_iff.1 hz1
    rw [List.getElem_range] at h2
    subst h2
    have := hc k (by simpa using h1)
    rwa [Addr.add_lit] at this
theorem openT {H : Type} {enc : TypeId × Value → H} {W : World} {a : Option Addr} {len cap : Nat} {d : DataW H} {p : List MemPlace}
    (h0 : DataW.Trod enc Try.prog W 0 (fun _ => true) true 22 (.slice a len cap) d p)
    (hsz : ∀ es sp, d = .slice es sp → (es.length + sp.length) * Try.prog.bytesOf 9 ≤ reachBytes) : ∃ l : List Str, len = l.length ∧ RS W W.heap.size a cap l := by
  obtain ⟨fuel, hf⟩ := h0
  rcases Go.Deep.open_strs Try.underlying22 Try.underlying9 (by kernel_rfl) hf with ⟨hcs, _⟩ | ⟨x, l, c, m, Sx, hcs, _, hl, hm, hmm, hx, hcell⟩
  · simp [Value.cells] at hcs
    obtain ⟨rfl, rfl, rfl⟩ := hcs
    exact ⟨[], rfl, RL.nil ..⟩
  · simp [Value.cells] at hcs
    obtain ⟨rfl, rfl, rfl⟩ := hcs
    simp only [if_true] at hmm
    simp only [Prod.mk.injEq] at hx
    have hb := hsz _ _ hx.1
    rw [bytesT] at hb
    simp only [List.length_map, List.length_range, reachBytes] at hb
    exact ⟨(List.range len).map Sx, by simp, rl_of (by omega) hl (fun i hi => (hcell i (by omega)).1)⟩
theorem openL {H : Type} {enc : TypeId × Value → H} {W : World} {a : Option Addr} {len cap : Nat} {d : DataW H} {p : List MemPlace}
    (h0 : DataW.Trod enc Try.prog W 0 (fun _ => true) true 23 (.slice a len cap) d p)
    (hsz : ∀ es sp, d = .slice es sp → (es.length + sp.length) * Try.prog.bytesOf 4 ≤ reachBytes) : ∃ l : List Bool, len = l.length ∧ RBo W W.heap.size a cap l := by
  obtain ⟨fuel, hf⟩ := h0
  rcases Go.Deep.open_bools Try.underlying23 Try.underlying4 (by kernel_rfl) hf with ⟨hcs, _⟩ | ⟨x, l, c, Bx, hcs, _, hl, hm, hx, hcell⟩
  · simp [Value.cells] at hcs
    obtain ⟨rfl, rfl, rfl⟩ := hcs
    exact ⟨[], rfl, RL.nil ..⟩
  · simp [Value.cells] at hcs
    obtain ⟨rfl, rfl, rfl⟩ := hcs
    simp only [Prod.mk.injEq, Go.Deep.boolRow] at hx
    have hb := hsz _ _ hx.1
    rw [bytesL] at hb
    simp only [List.length_map, List.length_range, reachBytes] at hb
    exact ⟨(List.range len).map Bx, by simp, rl_of (by omega) hl (fun i hi => hcell i (by omega))⟩
end Go.Proofs.Ytmgblmdilepkpaa
