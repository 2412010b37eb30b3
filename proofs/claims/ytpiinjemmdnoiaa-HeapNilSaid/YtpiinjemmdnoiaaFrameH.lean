/- Arguments as they come in: a cell of a heap. -/
import Derived.Test.YtpiinjemmdnoiaaHpA
import Derived.ProofKit
import Derived.OpenShut
import Derived.ShutString
import Derived.ChangeOld
import Derived.SizedLaws
namespace Go.Proofs.Ytpiinjemmdnoiaa
open Go.ChangeShapes Go.WideShapes Go.ChangeAt Go.RowKit

theorem own_ : ownKnob Try.prog.godebug = none := by kernel_rfl
theorem laidOut_ : laidOutB Try.prog = true := by kernel_rfl
theorem cells_int : Try.prog.cellsOf 3 = 1 := by kernel_rfl
theorem cells_bool : Try.prog.cellsOf 4 = 1 := by kernel_rfl
section
variable {H : Type} {enc : TypeId × Value → H} {W : World}
set_option maxRecDepth 100000 in
theorem openC {r : Reach} {b0 : Nat} {v : Value} {d : DataW H} {p : List MemPlace} (hv : Value.okWide Try.prog W r b0 23 v) (h : DataW.Trod enc Try.prog W 0 (fun _ => true) true 23 v d p) :
    ∃ (n : Int) (b : Bool), v = .agg #[.int .i64 n, .bool b] := by
  obtain ⟨cs, rfl, hn⟩ := okWide_struct Try.underlying23 hv
  obtain ⟨l⟩ := cs
  match l, hn.trans (show Try.prog.cellsOf 23 = 2 by kernel_rfl) with
  | [c0, c1], _ =>
    obtain ⟨fuel, hf⟩ := h
    obtain ⟨xs, n, _, hx, _, hlen, hg⟩ := DataW.trod_struct Try.underlying23 hf
    match xs, hlen with
    | [y0, y1], _ =>
      have g0 := hg 0 _ rfl
      have g1 := hg 1 _ rfl
      change DataW.trod enc Try.prog W 0 (fun _ => true) true n 3 (([c0, c1].drop 0).take (Try.prog.cellsOf 3)) = some y0 at g0
      change DataW.trod enc Try.prog W 0 (fun _ => true) true n 4 (([c0, c1].drop 1).take (Try.prog.cellsOf 4)) = some y1 at g1
      rw [cells_int] at g0
      rw [cells_bool] at g1
      obtain ⟨a, h0, _⟩ := DataW.trod_int Try.underlying3 (cs := [c0]) g0
      obtain ⟨s, h1, _⟩ := DataW.trod_bool Try.underlying4 (cs := [c1]) g1
      simp at h0 h1
      subst h0 h1
      exact ⟨a, s, rfl⟩
end
end Go.Proofs.Ytpiinjemmdnoiaa
