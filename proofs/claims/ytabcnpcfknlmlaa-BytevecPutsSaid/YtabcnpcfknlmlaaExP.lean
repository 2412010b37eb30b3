/- Walks: the reference's Same, Whole, Int. -/
import Derived.Test.YtabcnpcfknlmlaaExW
import Derived.Test.YtabcnpcfknlmlaaRatW
import Derived.Test.YtabcnpcfknlmlaaGF
namespace Go.Proofs.Ytabcnpcfknlmlaa
open Go.RowKit


set_option maxRecDepth 100000 in
set_option maxHeartbeats 4000000 in
theorem rwhole1_any (V : Value) (r i : Rw) (w : World) (hV : VN w w.heap.size V r i) :
    Calls Try.prog 68 #[V] w fun e w' => e = .returned (.bool (wB r i)) ∧ Below w.heap.size w w' := by
  obtain ⟨A1, c1, D1, d1, A2, c2, D2, d2, rfl, p1, p2, p3, p4⟩ := hV
  have Ha : VN w w.heap.size (.agg #[.bool r.s, .slice A1 r.a.length c1, .slice D1 r.b.length d1, .bool i.s, .slice A2 i.a.length c2, .slice D2 i.b.length d2]) r i := ⟨A1, c1, D1, d1, A2, c2, D2, d2, rfl, p1, p2, p3, p4⟩
  have S0 := SB.new w [.bool r.s, .slice A1 r.a.length c1, .slice D1 r.b.length d1, .bool i.s, .slice A2 i.a.length c2, .slice D2 i.b.length d2] 27
  have C0 := bal w (.cells #[.bool r.s, .slice A1 r.a.length c1, .slice D1 r.b.length d1, .bool i.s, .slice A2 i.a.length c2, .slice D2 i.b.length d2] 27)
  have hs1 := fun V w' h => resound_any V r i w' h
  have hr1 := fun V w' h => rreal_any V r i w' h
  unfold wB
  obtain ⟨t3, hd⟩ : ∃ t3, decide (r.b = [1]) = t3 := ⟨_, rfl⟩
  rw [hd]
  have hd := Lib.hid hd
  generalize nB r i = t1 at *
  generalize decide (i.a.length = 0) = t2 at *
  cases t1 with
  | false =>
    have i0 := S0.cell 0
    have i1 := S0.cell 1
    have i2 := S0.cell 2
    have i3 := S0.cell 3
    have i4 := S0.cell 4
    have i5 := S0.cell 5
    go_enter Try.func68, Try.ntmps68
    go_wp2_with fail
    refine (hs1 _ _ (Ha.st C0)).mono ?_; rintro e w3 ⟨rfl, B3⟩
    have S3 := S0.nx B3
    have C3 := bt C0 B3
    clear i0 i1 i2 i3 i4 i5
    go_wp2_with fail
    go_ret
    exact ⟨by simp, C3⟩
  | true =>
    cases t2 with
    | false =>
      have i0 := S0.cell 0
      have i1 := S0.cell 1
      have i2 := S0.cell 2
      have i3 := S0.cell 3
      have i4 := S0.cell 4
      have i5 := S0.cell 5
      go_enter Try.func68, Try.ntmps68
      go_wp2_with fail
      refine (hs1 _ _ (Ha.st C0)).mono ?_; rintro e w3 ⟨rfl, B3⟩
      have S3 := S0.nx B3
      have C3 := bt C0 B3
      clear i0 i1 i2 i3 i4 i5
      have j0 := S3.cell 0
      have j1 := S3.cell 1
      have j2 := S3.cell 2
      have j3 := S3.cell 3
      have j4 := S3.cell 4
      have j5 := S3.cell 5
      go_wp2_with fail
      refine (hr1 _ _ (Ha.st C3)).mono ?_; rintro e w4 ⟨rfl, B4⟩
      have S4 := S3.nx B4
      have C4 := bt C3 B4
      clear j0 j1 j2 j3 j4 j5
      go_wp2_with fail
      go_ret
      exact ⟨by simp, C4⟩
    | true =>
      have i0 := S0.cell 0
      have i1 := S0.cell 1
      have i2 := S0.cell 2
      have i3 := S0.cell 3
      have i4 := S0.cell 4
      have i5 := S0.cell 5
      go_enter Try.func68, Try.ntmps68
      go_wp2_with fail
      refine (hs1 _ _ (Ha.st C0)).mono ?_; rintro e w3 ⟨rfl, B3⟩
      have S3 := S0.nx B3
      have C3 := bt C0 B3
      clear i0 i1 i2 i3 i4 i5
      have j0 := S3.cell 0
      have j1 := S3.cell 1
      have j2 := S3.cell 2
      have j3 := S3.cell 3
      have j4 := S3.cell 4
      have j5 := S3.cell 5
      go_wp2_with fail
      refine (hr1 _ _ (Ha.st C3)).mono ?_; rintro e w4 ⟨rfl, B4⟩
      have S4 := S3.nx B4
      have C4 := bt C3 B4
      clear j0 j1 j2 j3 j4 j5
      have i2 := S4.cell 2
      have L4 := bal w4 (.cells #[.int .u32 (1 : Nat)] 53)
      have r1 := RW.one w4 53 (show 1 < 4294967296 by omega)
      have hsm := same_any D1 (some ⟨w4.heap.size, 0, none⟩) d1 1 r.b.length 1 r.b [1] _ rfl rfl (st p2 (bt C4 L4)) (r1.more (by simp))
      rw [hd.out] at hsm
      go_wp2_with fail
      refine hsm.mono ?_; rintro e w5 ⟨rfl, q, rfl⟩
      go_wp2_with fail
      go_ret
      exact ⟨by simp, bdN (bt C4 L4) q⟩

end Go.Proofs.Ytabcnpcfknlmlaa
