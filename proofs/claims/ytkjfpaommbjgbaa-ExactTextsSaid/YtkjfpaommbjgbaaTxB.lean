/- Walks: ratText and Text of the reference. -/
import Derived.Test.YtkjfpaommbjgbaaTxA
import Derived.Test.YtkjfpaommbjgbaaRdJ
namespace Go.Proofs.Ytkjfpaommbjgbaa
open Go.RowKit


set_option maxRecDepth 100000 in
set_option maxHeartbeats 8000000 in
theorem rratText_any (v : Value) (q : Rat) (r : Nat) (w : World) (hv : RQ w w.heap.size v q) (hq : qw q ≤ 512) (hr : rdOk r) :
    Calls Try.prog 26 #[v, .int .i64 (r : Int)] w fun e w' => e = .returned (.string ⟨(ratT (txt r) q).toArray⟩) ∧ Below w.heap.size w w' := by
  obtain ⟨A, c, D, d, rfl, ra, rb⟩ := hv
  have hrl := hr.le
  obtain ⟨p1, p2, _⟩ := rsB_parts (rsB_of q hq)
  have e1 : textA (digs (qt q)) (r : Int) = (txt r (qt q), 0) := by unfold textA; rw [if_pos p1, if_neg (by omega), val_digs, Int.toNat_natCast]
  have e2 : textA (digs (qd q)) (r : Int) = (txt r (qd q), 0) := by unfold textA; rw [if_pos p2, if_neg (by omega), val_digs, Int.toNat_natCast]
  have B1 := bal w (.cells #[.bool (qn q), .slice A (digs (qt q)).length c, .slice D (digs (qd q)).length d] 24)
  have sg := SB.new w [.bool (qn q), .slice A (digs (qt q)).length c, .slice D (digs (qd q)).length d] 24
  have m0 := sg.cell 0
  have m1 := sg.cell 1
  have m2 := sg.cell 2
  have h1 := fun w' (B : Below w.heap.size w w') => rtext_any A c _ (digs (qt q)) (r : Int) w' rfl (st ra B)
  have h2 := fun w' (B : Below w.heap.size w w') => rtext_any D d _ (digs (qd q)) (r : Int) w' rfl (st rb B)
  rw [e1] at h1
  rw [e2] at h2
  have n1 := txt_len (b := r) hrl.1 (soundB_parts p1).1
  have n2 := txt_len (b := r) hrl.1 (soundB_parts p2).1
  have lR := ratT_len hr hq
  clear e1 e2 p1 p2
  obtain ⟨x1, hx1⟩ : ∃ x : ByteArray, x = ⟨(txt r (qt q)).toArray⟩ := ⟨_, rfl⟩
  obtain ⟨x2, hx2⟩ : ∃ x : ByteArray, x = ⟨(txt r (qd q)).toArray⟩ := ⟨_, rfl⟩
  obtain ⟨y1, hy1⟩ : ∃ x : ByteArray, x = ⟨(45 :: txt r (qt q)).toArray⟩ := ⟨_, rfl⟩
  obtain ⟨y2, hy2⟩ : ∃ x : ByteArray, x = ⟨(47 :: txt r (qd q)).toArray⟩ := ⟨_, rfl⟩
  have a1 := fun w => str_add (a := ⟨#[45]⟩) (x := [45]) rfl hx1 hy1 (by simp only [List.length_cons, List.length_nil]; omega) w
  have a2 := fun w => str_add (a := ⟨#[47]⟩) (x := [47]) rfl hx2 hy2 (by simp only [List.length_cons, List.length_nil]; omega) w
  obtain ⟨zb, hzb⟩ : ∃ x : ByteArray, x = ⟨(ratT (txt r) q).toArray⟩ := ⟨_, rfl⟩
  have g1 : RetT = fun w t e w' => e = .returned (.tuple #[.string ⟨t.1.toArray⟩, .int .i64 t.2]) ∧ Below w.heap.size w w' := rfl
  rw [g1] at h1 h2
  clear g1
  dsimp only at h1 h2
  rw [← hx1] at h1
  rw [← hx2] at h2
  rw [← hzb]
  have hd1 : qd q = 1 ↔ digs (qd q) = [1] := ⟨fun h => by rw [h, digs_one1], fun h => by rw [← val_digs (qd q), h, val_one]⟩
  obtain ⟨sn, hsg⟩ : ∃ sn, qn q = sn := ⟨_, rfl⟩
  rw [hsg] at B1 sg m0 ⊢
  cases sn with
  | true =>
    by_cases h1d : digs (qd q) = [1]
    · replace hd1 := hd1.2 h1d
      have hsm : decide (digs (qd q) = [1]) = true := decide_eq_true h1d
      have hz : ratT (txt r) q = 45 :: txt r (qt q) := by unfold ratT fracT; rw [hsg, if_pos rfl, if_pos hd1, List.append_nil]; rfl
      have ez : zb = y1 := by rw [hzb, hy1, hz]
      subst ez
      clear hz hzb hx1 hx2 hy1 hy2 lR n1 n2 h1d hd1 hsg
      go_enter Try.func26, Try.ntmps26
      go_wp2_with fail
      refine (h1 _ B1).mono ?_; rintro e w3 ⟨rfl, B3⟩
      have S3 := sg.nx B3
      have n0 := S3.cell 0
      have n1 := S3.cell 1
      have n2 := S3.cell 2
      clear m0 m1 m2
      have Bo := bal w3 (.cells #[.int .u32 (1 : Int)] 52)
      have ro : RW (w3.alloc (.cells #[.int .u32 (1 : Int)] 52)) (w3.alloc (.cells #[.int .u32 (1 : Int)] 52)).heap.size (some ⟨w3.heap.size, 0, none⟩) 1 [1] := (RW.one w3 52 (show 1 < 4294967296 by omega)).more (by simp)
      have hs := fun c' (hc : c' = digs (qd q)) => same_any D (some ⟨w3.heap.size, 0, none⟩) d 1 _ 1 (digs (qd q)) [1] (w3.alloc (.cells #[.int .u32 (1 : Int)] 52)) rfl rfl (st rb (bt (bt B1 B3) Bo)) ro
      replace hs := hs _ rfl
      rw [hsm] at hs
      have B4 := bt (bt B1 B3) Bo
      have S4 := S3.nx Bo
      clear ro Bo
      go_wp2_with fail
      clear n0 n1 n2
      refine hs.mono ?_; rintro e w4 ⟨rfl, k4, rfl⟩
      clear hs
      go_wp2_with fail
      go_ret
      exact ⟨rfl, bdN B4 k4⟩
    · replace hd1 := fun h => h1d (hd1.1 h)
      have hsm : decide (digs (qd q) = [1]) = false := decide_eq_false h1d
      have hz : ratT (txt r) q = (45 :: txt r (qt q)) ++ (47 :: txt r (qd q)) := by unfold ratT fracT; rw [hsg, if_pos rfl, if_neg hd1]; rfl
      have a3 := fun w => str_add (c := zb) hy1 hy2 (by rw [hzb, hz]) (by have := lR; rw [hz] at this; simp only [List.length_append] at this; omega) w
      clear hz hzb hx1 hx2 hy1 hy2 lR n1 n2 h1d hd1 hsg
      go_enter Try.func26, Try.ntmps26
      go_wp2_with fail
      refine (h1 _ B1).mono ?_; rintro e w3 ⟨rfl, B3⟩
      have S3 := sg.nx B3
      have n0 := S3.cell 0
      have n1 := S3.cell 1
      have n2 := S3.cell 2
      clear m0 m1 m2
      have Bo := bal w3 (.cells #[.int .u32 (1 : Int)] 52)
      have ro : RW (w3.alloc (.cells #[.int .u32 (1 : Int)] 52)) (w3.alloc (.cells #[.int .u32 (1 : Int)] 52)).heap.size (some ⟨w3.heap.size, 0, none⟩) 1 [1] := (RW.one w3 52 (show 1 < 4294967296 by omega)).more (by simp)
      have hs := fun c' (hc : c' = digs (qd q)) => same_any D (some ⟨w3.heap.size, 0, none⟩) d 1 _ 1 (digs (qd q)) [1] (w3.alloc (.cells #[.int .u32 (1 : Int)] 52)) rfl rfl (st rb (bt (bt B1 B3) Bo)) ro
      replace hs := hs _ rfl
      rw [hsm] at hs
      have B4 := bt (bt B1 B3) Bo
      have S4 := S3.nx Bo
      clear ro Bo
      go_wp2_with fail
      clear n0 n1 n2
      refine hs.mono ?_; rintro e w4 ⟨rfl, k4, rfl⟩
      clear hs
      have S5 : SB ((w3.alloc (.cells #[.int .u32 (1 : Int)] 52)).drewN k4) w.heap.size [.bool true, .slice A (digs (qt q)).length c, .slice D (digs (qd q)).length d] := S4
      have B5 : Below w.heap.size w ((w3.alloc (.cells #[.int .u32 (1 : Int)] 52)).drewN k4) := bdN B4 k4
      have n0 := S5.cell 0
      have n1 := S5.cell 1
      have n2 := S5.cell 2
      go_wp2_with fail
      refine (h2 _ B5).mono ?_; rintro e w6 ⟨rfl, B6⟩
      clear n0 n1 n2
      go_wp2_with fail
      go_ret
      exact ⟨rfl, bt B5 B6⟩
  | false =>
    by_cases h1d : digs (qd q) = [1]
    · replace hd1 := hd1.2 h1d
      have hsm : decide (digs (qd q) = [1]) = true := decide_eq_true h1d
      have hz : ratT (txt r) q = txt r (qt q) := by unfold ratT fracT; rw [hsg, if_neg (by simp), if_pos hd1, List.append_nil]; rfl
      have ez : zb = x1 := by rw [hzb, hx1, hz]
      subst ez
      clear hz hzb hx1 hx2 hy1 hy2 lR n1 n2 h1d hd1 hsg
      go_enter Try.func26, Try.ntmps26
      go_wp2_with fail
      refine (h1 _ B1).mono ?_; rintro e w3 ⟨rfl, B3⟩
      have S3 := sg.nx B3
      have n0 := S3.cell 0
      have n1 := S3.cell 1
      have n2 := S3.cell 2
      clear m0 m1 m2
      have Bo := bal w3 (.cells #[.int .u32 (1 : Int)] 52)
      have ro : RW (w3.alloc (.cells #[.int .u32 (1 : Int)] 52)) (w3.alloc (.cells #[.int .u32 (1 : Int)] 52)).heap.size (some ⟨w3.heap.size, 0, none⟩) 1 [1] := (RW.one w3 52 (show 1 < 4294967296 by omega)).more (by simp)
      have hs := fun c' (hc : c' = digs (qd q)) => same_any D (some ⟨w3.heap.size, 0, none⟩) d 1 _ 1 (digs (qd q)) [1] (w3.alloc (.cells #[.int .u32 (1 : Int)] 52)) rfl rfl (st rb (bt (bt B1 B3) Bo)) ro
      replace hs := hs _ rfl
      rw [hsm] at hs
      have B4 := bt (bt B1 B3) Bo
      have S4 := S3.nx Bo
      clear ro Bo
      go_wp2_with fail
      clear n0 n1 n2
      refine hs.mono ?_; rintro e w4 ⟨rfl, k4, rfl⟩
      clear hs
      go_wp2_with fail
      go_ret
      exact ⟨rfl, bdN B4 k4⟩
    · replace hd1 := fun h => h1d (hd1.1 h)
      have hsm : decide (digs (qd q) = [1]) = false := decide_eq_false h1d
      have hz : ratT (txt r) q = (txt r (qt q)) ++ (47 :: txt r (qd q)) := by unfold ratT fracT; rw [hsg, if_neg (by simp), if_neg hd1]; rfl
      have a3 := fun w => str_add (c := zb) hx1 hy2 (by rw [hzb, hz]) (by have := lR; rw [hz] at this; simp only [List.length_append] at this; omega) w
      clear hz hzb hx1 hx2 hy1 hy2 lR n1 n2 h1d hd1 hsg
      go_enter Try.func26, Try.ntmps26
      go_wp2_with fail
      refine (h1 _ B1).mono ?_; rintro e w3 ⟨rfl, B3⟩
      have S3 := sg.nx B3
      have n0 := S3.cell 0
      have n1 := S3.cell 1
      have n2 := S3.cell 2
      clear m0 m1 m2
      have Bo := bal w3 (.cells #[.int .u32 (1 : Int)] 52)
      have ro : RW (w3.alloc (.cells #[.int .u32 (1 : Int)] 52)) (w3.alloc (.cells #[.int .u32 (1 : Int)] 52)).heap.size (some ⟨w3.heap.size, 0, none⟩) 1 [1] := (RW.one w3 52 (show 1 < 4294967296 by omega)).more (by simp)
      have hs := fun c' (hc : c' = digs (qd q)) => same_any D (some ⟨w3.heap.size, 0, none⟩) d 1 _ 1 (digs (qd q)) [1] (w3.alloc (.cells #[.int .u32 (1 : Int)] 52)) rfl rfl (st rb (bt (bt B1 B3) Bo)) ro
      replace hs := hs _ rfl
      rw [hsm] at hs
      have B4 := bt (bt B1 B3) Bo
      have S4 := S3.nx Bo
      clear ro Bo
      go_wp2_with fail
      clear n0 n1 n2
      refine hs.mono ?_; rintro e w4 ⟨rfl, k4, rfl⟩
      clear hs
      have S5 : SB ((w3.alloc (.cells #[.int .u32 (1 : Int)] 52)).drewN k4) w.heap.size [.bool false, .slice A (digs (qt q)).length c, .slice D (digs (qd q)).length d] := S4
      have B5 : Below w.heap.size w ((w3.alloc (.cells #[.int .u32 (1 : Int)] 52)).drewN k4) := bdN B4 k4
      have n0 := S5.cell 0
      have n1 := S5.cell 1
      have n2 := S5.cell 2
      go_wp2_with fail
      refine (h2 _ B5).mono ?_; rintro e w6 ⟨rfl, B6⟩
      clear n0 n1 n2
      go_wp2_with fail
      go_ret
      exact ⟨rfl, bt B5 B6⟩

end Go.Proofs.Ytkjfpaommbjgbaa