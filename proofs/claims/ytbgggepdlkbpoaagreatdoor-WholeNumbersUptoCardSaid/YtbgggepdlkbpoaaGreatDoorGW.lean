/- Merged texts: Frame. -/
import Derived.Test.YtbgggepdlkbpoaaGreatDoorGA
import Derived.ProofKit
import Derived.OpenShut
import Derived.ShutString
import Derived.ChangeOld
import Derived.Below
import Derived.SizedLaws
namespace Go.Proofs.YtbgggepdlkbpoaaGreatDoor
open Go.ChangeShapes Go.WideShapes Go.ChangeAt Go.RowKit

theorem own_ : ownKnob Tryz.prog.godebug = none := by kernel_rfl
theorem laidOut_ : laidOutB Tryz.prog = true := by kernel_rfl
theorem bytesW : Tryz.prog.bytesOf 55 = 4 := by kernel_rfl

theorem openW {H : Type} {enc : TypeId × Value → H} {W : World} {a : Option Addr} {len cap : Nat} {d : DataW H} {p : List MemPlace}
    (h0 : DataW.Trod enc Tryz.prog W 0 (fun _ => true) true 22 (.slice a len cap) d p)
    (hsz : ∀ es sp, d = .slice es sp → (es.length + sp.length) * Tryz.prog.bytesOf 55 ≤ reachBytes) : ∃ l : List Nat, len = l.length ∧ RW W W.heap.size a cap l := by
  obtain ⟨fuel, hf⟩ := h0
  rcases open_ints Tryz.underlying22 Tryz.underlying55 (by kernel_rfl) hf with ⟨hcs, _⟩ | ⟨x, l, c, zs, hcs, _, hl, hm, hz, hx, hcell, hwz⟩
  · simp [Value.cells] at hcs
    obtain ⟨rfl, rfl, rfl⟩ := hcs
    exact ⟨[], rfl, RW.nil ..⟩
  · simp [Value.cells] at hcs
    obtain ⟨rfl, rfl, rfl⟩ := hcs
    simp only [Prod.mk.injEq] at hx
    have hb := hsz _ _ hx.1
    rw [bytesW] at hb
    simp only [lits, List.length_map, List.length_take, List.length_drop, reachBytes] at hb
    simp only [if_true] at hz
    have hzn : ∀ n ∈ zs, 0 ≤ n ∧ n ≤ 4294967295 := fun n hn => bounds_u32 (hwz n hn)
    refine ⟨(zs.take len).map Int.toNat, by simp; omega, ⟨by simp; omega, by simp; omega, fun hn => ?_⟩, ?_⟩
    · have hlen : 0 < zs.length := by simp at hn; omega
      obtain ⟨b, off, spot⟩ := x
      have hc0 := hcell 0 hlen
      have hspot : spot = none := by simpa [Addr.add] using World.cell?_spot hc0
      subst hspot
      refine ⟨b, off, rfl, ?_, fun k y hk => ?_⟩
      · have := World.block_lt_of_cell? _ _ hc0
        simpa [Addr.add] using this
      · rw [List.getElem?_map] at hk
        obtain ⟨z, hz1, rfl⟩ := Option.map_eq_some_iff.1 hk
        rw [List.getElem?_take] at hz1
        split at hz1
        · have hlt : k < zs.length := (List.getElem?_eq_some_iff.1 hz1).1
          have hc := hcell k hlt
          rw [Addr.add_lit] at hc
          rw [hc, List.getD_eq_getElem?_getD, hz1]
          have := hzn z (List.mem_of_getElem? hz1)
          show some (Value.int .u32 z) = some (.int .u32 ((z.toNat : Nat) : Int))
          rw [Int.toNat_of_nonneg this.1]
        · cases hz1
    · intro y hy
      obtain ⟨z, hz1, rfl⟩ := List.mem_map.1 hy
      have := hzn z (List.mem_of_mem_take hz1)
      omega
end Go.Proofs.YtbgggepdlkbpoaaGreatDoor
