/- Merged texts: BiA, BiB, BiC, BiE, Hold, StepA, StepW, BiI. -/
import Derived.Test.YtnlgoedklmjhlaaGB
import Derived.Test.YtnlgoedklmjhlaaGE
import Derived.Test.YtnlgoedklmjhlaaGA
import Derived.Deep.LoopGhost
import Derived.Laws.CopyOwn
import Derived.Test.YtnlgoedklmjhlaaGF
import Derived.Test.YtnlgoedklmjhlaaGG
import Derived.Deep.RegionLaw
namespace Go.Proofs.Ytnlgoedklmjhlaa
open Go.RowKit

theorem xor_all {x : Nat} (hx : x < 4294967296) : 4294967295 ^^^ x = 4294967295 - x := by
  refine Nat.eq_of_testBit_eq fun k => ?_
  have h1 := Nat.testBit_two_pow_sub_succ (n := 32) hx k
  have h2 := Nat.testBit_two_pow_sub_one 32 k
  rw [Nat.testBit_xor, show (4294967295 : Nat) = 2 ^ 32 - 1 by decide, h2, show 2 ^ 32 - 1 - x = 2 ^ 32 - (x + 1) by omega, h1]
  by_cases hk : k < 32
  · rw [decide_eq_true hk]
    simp
  · rw [decide_eq_false hk, Nat.testBit_lt_two_pow (Nat.lt_of_lt_of_le hx (show 2 ^ 32 ≤ 2 ^ k from Nat.pow_le_pow_right (by omega) (by omega)))]
    rfl
theorem not_word {x : Nat} (hx : x < 4294967296) : bits BinOp.xor IntKind.u32 IntKind.u32.max (x : Int) = ((4294967295 - x : Nat) : Int) := by
  rw [← xor_all hx]
  exact u32_xor_nat 4294967295 x (by omega) hx
/-- a store into a block: all others stay -/
theorem grown_set {w w' : World} {g : Nat} (h : w.grownBy w' (some g)) (k : Nat) (u : Value) : w.grownBy (w'.setCell ⟨g, k, none⟩ u) (some g) :=
  h.trans ⟨rfl, rfl, rfl, by simp [World.setCell], fun i _ hi => Below.heap_setCell _ _ _ _ (fun e => hi (by rw [e]))⟩
theorem grown_drN {w w' : World} {r : Option Nat} (h : w.grownBy w' r) (n : Nat) : w.grownBy (w'.drewN n) r := ⟨h.os, h.tape, h.output, h.size, h.block⟩
theorem SB.grown {w w' : World} {g b : Nat} {vs : List Value} (h : SB w b vs) (hg : w.grownBy w' (some g)) (hb : b ≠ g) : SB w' b vs :=
  ⟨fun i v hv => ⟨(World.cell?_of_block (a := ⟨b, i, none⟩) (hg.block b h.2 (fun e => hb (Option.some.inj e)))).trans (h.1 i v hv).1, (World.frozen?_of_block (a := ⟨b, i, none⟩) (hg.block b h.2 (fun e => hb (Option.some.inj e)))).trans (h.1 i v hv).2⟩, Nat.lt_of_lt_of_le h.2 hg.size⟩
theorem turn_any (g c : Nat) (l : List Nat) (w : World) (base : Nat) (h : OW w base (some ⟨g, 0, none⟩) c l) :
    Calls Try.prog 78 #[.slice (some ⟨g, 0, none⟩) l.length c] w fun e w' => e = .returned (.tuple #[]) ∧ OW w' base (some ⟨g, 0, none⟩) c (wordsN l.length ((Wp l.length - val l) % Wp l.length)) ∧ Below base w w' ∧ w.grownBy w' (some g) := by
  have hbig := h.big
  have hb := h.b32
  have hg := h.lt.1
  go_enter Try.func78, Try.ntmps78
  go_wp2_with fail
  go_loopg [2, 7] l.length (fun gg cv iv wr => ∃ (k cc : Nat) (o : List Nat), k ≤ l.length ∧ l.length - k = gg ∧ iv = .int .i64 (k : Int) ∧ cv = .int .u32 (cc : Int) ∧ cc ≤ 1 ∧ OW wr base (some ⟨g, 0, none⟩) c o ∧ Hid (o.length = l.length ∧ (∀ j, k ≤ j → wd o j = wd l j) ∧ val (o.take k) + cc * Wp k + val (l.take k) = Wp k) ∧ Below base w wr ∧ w.grownBy wr (some g))
  case atStart => exact ⟨0, 1, l, Nat.zero_le _, rfl, rfl, rfl, by omega, h, Lib.hid ⟨rfl, fun _ _ => rfl, by simp [Wp_zero, val]⟩, Below.refl _ _, World.grownBy.refl _ _⟩
  case round =>
    obtain ⟨k, cc, o, hk, rfl, rfl, rfl, hcc, hO, hI, hbel, hgr⟩ := hrel
    by_cases hk0 : k < l.length
    · obtain ⟨hol, hrest, hsum⟩ := hI.out
      have hck := hO.cell (k := k) (by omega)
      rw [hrest k (Nat.le_refl _)] at hck
      have hfk := hO.frozen k
      have hx := wd_lt hb k
      have hst := turn_step hk0 hol hb hcc hsum
      have ha := add32_any (4294967295 - wd l k) 0 cc
      have hset := hO.set k (addf_lt (4294967295 - wd l k) 0 cc)
      have hnew : ∀ j, k + 1 ≤ j → wd (o.set k (addf (4294967295 - wd l k) 0 cc)) j = wd l j := fun j hj => by
        rw [wd_set_ne (by omega)]
        exact hrest j (by omega)
      have hbel2 := hbel.setCell (p := ⟨g, k, none⟩) hg (.int .u32 (addf (4294967295 - wd l k) 0 cc : Nat))
      have hgr2 := grown_set hgr k (.int .u32 (addf (4294967295 - wd l k) 0 cc : Nat))
      have HI := Lib.hid (And.intro (show (o.set k (addf (4294967295 - wd l k) 0 cc)).length = l.length by rw [List.length_set]; exact hol) (And.intro hnew hst.1))
      have HC := Lib.hid hst.2
      rw [← not_word hx] at ha
      clear hol hrest hsum hst hnew hI
      go_wp2_with fail
      refine (ha _ (by omega) (by omega) hcc).mono ?_; rintro e w' ⟨rfl, rfl⟩
      clear ha
      go_wp2_with fail
      go_roundg (l.length - (k + 1))
      case measure => omega
      case rel => exact ⟨k + 1, _, _, by omega, rfl, by go_num, rfl, HC.out, hset, HI, hbel2, hgr2⟩
    · obtain rfl : k = l.length := by omega
      have hfin := turn_all hI.out.1 hI.out.2.2 hcc hO.b32
      have HF := Lib.hid hfin
      clear hfin hI hk0
      go_wp2_with fail
      go_end0
      exact ⟨rfl, by rw [← HF.out]; exact hO, hbel, hgr⟩
end Go.Proofs.Ytnlgoedklmjhlaa
namespace Go.Proofs.Ytnlgoedklmjhlaa
open Go.RowKit

theorem wp_copyW (w : World) {ops : Array Oper} {rest : List Oper} {o : Oper} {a : Act} {Q : Exit → Act → World → Prop} (hgd : o.guard = none) (d s : Operand)
    (ho : o.op = .call { callee := .builtin .copy, args := #[d, s], argTypes := #[22, 22] })
    (g off dLen dCap base c : Nat) (l : List Nat) (hO : OW w base (some ⟨g, 0, none⟩) c l) (hd : a.eval d = .slice (some ⟨g, off, none⟩) dLen dCap)
    (D : Option Addr) (sCap B n : Nat) (r : List Nat) (hs : a.eval s = .slice D n sCap) (hn : n = r.length) (hr : RW w B D sCap r) (h1 : r.length ≤ dLen) (h2 : off + r.length ≤ l.length) (hr0 : 0 < r.length)
    (hK : ∀ w', OW w' base (some ⟨g, 0, none⟩) c (l.take off ++ (r ++ l.drop (off + r.length))) → Below base w w' → wpList Try.prog ops Q rest (a.put o.dst (goInt r.length)) w') :
    wpList Try.prog ops Q (o :: rest) a w := by
  subst hn
  obtain ⟨b, o2, rfl, _, hc⟩ := hr.1.at_ hr0
  have hbase := hO.lt.1
  rcases hO.1.1.2 with ⟨e, _⟩ | ⟨g', cap, cur, e, _, hh, hn, hcm, hcs, ht⟩
  · cases e
  · simp only [Value.slice.injEq, Option.some.injEq, Addr.mk.injEq, and_true] at e
    obtain ⟨rfl, _, rfl⟩ := e
    have hcur : cur.size = c := by rw [hcs, Nat.mul_one]
    rw [Nat.mul_one] at ht
    have hlc : l.length ≤ c := hn
    have hl2 : cur.toList.length = c := by simpa using hcur
    refine wpList_copy_own hgd d s 22 22 ho 46 Try.underlying22 (by kernel_rfl) g off dLen dCap ⟨b, o2, none⟩ r.length sCap hd hs cur 46 hh (r.map fw) (by rw [List.length_map]; exact (Nat.min_eq_left h1).symm)
      (fun j v hj => by
        rw [List.getElem?_map] at hj
        obtain ⟨y, hy, rfl⟩ := Option.map_eq_some_iff.1 hj
        rw [Addr.add_lit]
        exact hc j y hy) (by simp; omega) (fun v hv => by obtain ⟨y, _, rfl⟩ := List.mem_map.1 hv; rfl) ?_
    rw [List.length_map]
    have hl1 : (l.take off ++ (r ++ l.drop (off + r.length))).length = l.length := by simp; omega
    have hX : (cur.toList.take off ++ (r.map fw ++ cur.toList.drop (off + r.length))).take l.length = (l.take off ++ (r ++ l.drop (off + r.length))).map fw := by
      obtain ⟨rs, hrs⟩ : ∃ rs, cur.toList = l.map fw ++ rs := ⟨_, by rw [← ht]; exact (List.take_append_drop ..).symm⟩
      have e1 : cur.toList.take off = (l.map fw).take off := by rw [hrs]; exact List.take_append_of_le_length (by simp; omega)
      have e2 : cur.toList.drop (off + r.length) = (l.map fw).drop (off + r.length) ++ rs := by rw [hrs]; exact List.drop_append_of_le_length (by simp; omega)
      rw [e1, e2, ← List.append_assoc, ← List.append_assoc, List.take_left' (by simp; omega)]
      simp [List.map_take, List.map_drop]
    have hB : B32 (l.take off ++ (r ++ l.drop (off + r.length))) := by
      intro x hx
      simp only [List.mem_append] at hx
      rcases hx with hx | hx | hx
      · exact hO.2 x (List.mem_of_mem_take hx)
      · exact hr.2 x hx
      · exact hO.2 x (List.mem_of_mem_drop hx)
    refine hK _ ⟨⟨⟨by simp, .inr ⟨g, c, _, by rw [hl1], hbase, setRow_heap w g cur _ _ _ hh, by rw [hl1]; exact hlc, hcm, by simp; omega, ?_⟩⟩, by rw [hl1]; exact hO.1.2⟩, hB⟩ (below_setRow (Below.refl _ _) hbase _)
    rw [hl1, Nat.mul_one]
    exact hX
theorem low_nat {N v : Nat} (h : v < 2 ^ N) : lowN N (v : Int) = v := by
  unfold lowN
  rw [Int.emod_eq_of_lt (by omega) (by omega), Int.toNat_natCast]
theorem row_pos {v n : Nat} (h : (digs v).length ≤ n) : digs v ++ List.replicate (n - (digs v).length) 0 = rowI n (v : Int) := by
  have hb : B32 (digs v ++ List.replicate (n - (digs v).length) 0) := by
    intro x hx
    rcases List.mem_append.1 hx with hx | hx
    · exact B32_digs v x hx
    · have := (List.mem_replicate.1 hx).2
      omega
  have hl : (digs v ++ List.replicate (n - (digs v).length) 0).length = n := by simp; omega
  have hv : val (digs v ++ List.replicate (n - (digs v).length) 0) = v := by rw [val_append, val_replicate, Nat.mul_zero, Nat.add_zero, val_digs]
  have h1 := wordsN_of hb
  rw [hl, hv] at h1
  rw [← h1]
  unfold rowI
  rw [low_nat (by rw [← Wp_eq]; exact digs_len_le.1 h)]

set_option maxRecDepth 100000 in
set_option maxHeartbeats 4000000 in
theorem row_raw (sg s2 : Bool) (A1 D1 A2 D2 : Option Addr) (c1 nb d1 n2 c2 n3 d2 : Nat) (a : List Nat) (n : Nat) (w : World) (p1 : RW w w.heap.size A1 c1 a) (hn : a.length ≤ n) (hn1 : 1 ≤ n) (hn2 : n ≤ 1000000) :
    Calls Try.prog 44 #[.agg #[.bool sg, .slice A1 a.length c1, .slice D1 nb d1, .bool s2, .slice A2 n2 c2, .slice D2 n3 d2], .int .i64 (n : Int)] w fun e w' => ∃ g, e = .returned (.slice (some ⟨g, 0, none⟩) n n) ∧
      OW w' w.heap.size (some ⟨g, 0, none⟩) n (if sg = true then wordsN n ((Wp n - val (a ++ List.replicate (n - a.length) 0)) % Wp n) else a ++ List.replicate (n - a.length) 0) ∧ Below w.heap.size w w' := by
  have B1 := bal w (.cells #[.bool sg, .slice A1 a.length c1, .slice D1 nb d1, .bool s2, .slice A2 n2 c2, .slice D2 n3 d2] 26)
  have S1 := SB.new w [.bool sg, .slice A1 a.length c1, .slice D1 nb d1, .bool s2, .slice A2 n2 c2, .slice D2 n3 d2] 26
  obtain ⟨W1, hW1⟩ : ∃ W1, W1 = w.alloc (.cells #[.bool sg, .slice A1 a.length c1, .slice D1 nb d1, .bool s2, .slice A2 n2 c2, .slice D2 n3 d2] 26) := ⟨_, rfl⟩
  have R1 := st p1 B1
  go_enter Try.func44, Try.ntmps44
  go_upto_region 1 with fail
  rw [← hW1] at S1 B1 R1 ⊢
  clear hW1
  go_upto_region 2 with (at_make; refine wp_makeW _ rfl _ _ rfl .i64 .i64 _ _ n rfl rfl (by omega) (by omega) (by omega) ?_; intro wm hOm hbm hsm)
  have Sm := S1.nx hbm
  have i0 := Sm.cell 0
  have i1 := Sm.cell 1
  have i2 := Sm.cell 2
  have hz := B1.size
  have hL : (a ++ List.replicate (n - a.length) 0).length = n := by simp; omega
  have fin : ∀ w5, OW w5 W1.heap.size (some ⟨W1.heap.size, 0, none⟩) n (a ++ List.replicate (n - a.length) 0) → Below W1.heap.size wm w5 → OW w5 W1.heap.size (some ⟨W1.heap.size, 0, none⟩) n (a ++ List.replicate (n - a.length) 0) ∧ Below w.heap.size w w5 ∧ w5.cell? ⟨w.heap.size, 0, none⟩ = some (.bool sg) :=
    fun w5 O B => ⟨O, bt B1 (hbm.trans B), (S1.nx (hbm.trans B)).cell 0⟩
  have hTu := fun w5 O => turn_any W1.heap.size n (a ++ List.replicate (n - a.length) 0) w5 W1.heap.size O
  rw [hL] at hTu
  by_cases ha : a.length = 0
  · have ha' : a = [] := List.eq_nil_of_length_eq_zero ha
    have e : a ++ List.replicate (n - a.length) 0 = List.replicate n 0 := by rw [ha']; simp
    go_upto_region 3 with (refine wpList_copy_nothing rfl _ _ 22 22 rfl 46 Try.underlying22 (by kernel_rfl) (some ⟨W1.heap.size, 0, none⟩) A1 n n _ c1 rfl rfl (Nat.zero_min n) ?_)
    obtain ⟨O5, C5, j0⟩ := fin wm (by rw [e]; exact hOm) (Below.refl _ _)
    clear i0 i1 i2 fin
    cases sg with
    | false =>
      go_wp2_with fail
      go_ret
      rw [e] at O5
      exact ⟨W1.heap.size, rfl, O5.base_le hz, C5⟩
    | true =>
      have hT := hTu wm O5
      go_wp2_with fail
      refine hT.mono ?_; rintro e6 w6 ⟨rfl, O6, B6, _⟩
      go_wp2_with fail
      go_ret
      rw [e] at O6
      exact ⟨W1.heap.size, rfl, O6.base_le hz, C5.trans (B6.mono hz)⟩
  · have e : (List.replicate n 0).take 0 ++ (a ++ (List.replicate n 0).drop (0 + a.length)) = a ++ List.replicate (n - a.length) 0 := by simp
    go_upto_region 3 with (refine wp_copyW _ rfl _ _ rfl W1.heap.size 0 n n W1.heap.size n (List.replicate n 0) hOm rfl A1 c1 wm.heap.size _ a rfl rfl (RW.step R1 hbm hbm.size) (by omega) (by simp; omega) (by omega) ?_; intro w5 O5 B5)
    rw [e] at O5
    obtain ⟨O5, C5, j0⟩ := fin w5 O5 B5
    clear i0 i1 i2 fin e
    cases sg with
    | false =>
      go_wp2_with fail
      go_ret
      exact ⟨W1.heap.size, rfl, O5.base_le hz, C5⟩
    | true =>
      have hT := hTu w5 O5
      go_wp2_with fail
      refine hT.mono ?_; rintro e w6 ⟨rfl, O6, B6, _⟩
      go_wp2_with fail
      go_ret
      exact ⟨W1.heap.size, rfl, O6.base_le hz, C5.trans (B6.mono hz)⟩
/-- row: a whole number's n words in two's complement -/
theorem row_any (V : Value) (X : Int) (n : Nat) (w : World) (hV : VN w w.heap.size V (rwq ((X : Int) : Rat)) (rwq 0)) (hn : (digs X.natAbs).length ≤ n) (hn1 : 1 ≤ n) (hn2 : n ≤ 1000000) :
    Calls Try.prog 44 #[V, .int .i64 (n : Int)] w fun e w' => ∃ g, e = .returned (.slice (some ⟨g, 0, none⟩) n n) ∧ OW w' w.heap.size (some ⟨g, 0, none⟩) n (rowI n X) ∧ Below w.heap.size w w' := by
  obtain ⟨A1, c1, D1, d1, A2, c2, D2, d2, rfl, p1, _, _, _⟩ := hV
  have h := row_raw (rwq ((X : Int) : Rat)).s (rwq 0).s A1 D1 A2 D2 c1 (rwq ((X : Int) : Rat)).b.length d1 (rwq 0).a.length c2 (rwq 0).b.length d2 (rwq ((X : Int) : Rat)).a n w p1 hn hn1 hn2
  refine h.mono ?_
  rintro e w' ⟨g, he, hO, hB⟩
  refine ⟨g, he, ?_, hB⟩
  have e1 : (rwq ((X : Int) : Rat)).s = decide (X < 0) := rfl
  have e2 : (rwq ((X : Int) : Rat)).a ++ List.replicate (n - (rwq ((X : Int) : Rat)).a.length) 0 = rowI n (X.natAbs : Int) := row_pos hn
  rw [e1, e2] at hO
  by_cases h0 : X < 0
  · rw [decide_eq_true h0, if_pos rfl, turn_row, show -((X.natAbs : Nat) : Int) = X by omega] at hO
    exact hO
  · rw [decide_eq_false h0, if_neg (by simp), show ((X.natAbs : Nat) : Int) = X by omega] at hO
    exact hO
end Go.Proofs.Ytnlgoedklmjhlaa
namespace Go.Proofs.Ytnlgoedklmjhlaa
open Go.RowKit

theorem and1_any (x y : Nat) (w : World) (hx : x < 4294967296) (hy : y < 4294967296) : Calls Try.prog 33 #[.int .u32 (x : Int), .int .u32 (y : Int)] w fun e w' => e = .returned (.int .u32 ((x &&& y : Nat) : Int)) ∧ w = w' := by
  have h := u32_and_nat x y hx hy
  go_enter Try.func33, Try.ntmps33
  go_wp2_with fail
  go_ret
  exact ⟨by rw [← h]; rfl, rfl⟩
theorem or1_any (x y : Nat) (w : World) (hx : x < 4294967296) (hy : y < 4294967296) : Calls Try.prog 37 #[.int .u32 (x : Int), .int .u32 (y : Int)] w fun e w' => e = .returned (.int .u32 ((x ||| y : Nat) : Int)) ∧ w = w' := by
  have h := u32_or_nat x y hx hy
  go_enter Try.func37, Try.ntmps37
  go_wp2_with fail
  go_ret
  exact ⟨by rw [← h]; rfl, rfl⟩
theorem xor1_any (x y : Nat) (w : World) (hx : x < 4294967296) (hy : y < 4294967296) : Calls Try.prog 38 #[.int .u32 (x : Int), .int .u32 (y : Int)] w fun e w' => e = .returned (.int .u32 ((x ^^^ y : Nat) : Int)) ∧ w = w' := by
  have h := u32_xor_nat x y hx hy
  go_enter Try.func38, Try.ntmps38
  go_wp2_with fail
  go_ret
  exact ⟨by rw [← h]; rfl, rfl⟩
theorem not1_any (x y : Nat) (w : World) (hx : x < 4294967296) : Calls Try.prog 39 #[.int .u32 (x : Int), .int .u32 (y : Int)] w fun e w' => e = .returned (.int .u32 ((4294967295 - x : Nat) : Int)) ∧ w = w' := by
  go_enter Try.func39, Try.ntmps39
  go_wp2_with fail
  go_ret
  exact ⟨by rw [← not_word hx]; rfl, rfl⟩
end Go.Proofs.Ytnlgoedklmjhlaa
namespace Go.Proofs.Ytnlgoedklmjhlaa
open Go.RowKit

/-- an own slice's block -/
theorem OW.bet {w : World} {base c : Nat} {A : Option Addr} {l : List Nat} (h : OW w base A c l) : ∀ g, A = some ⟨g, 0, none⟩ → base ≤ g ∧ g < w.heap.size := fun g hA => by subst hA; exact h.lt
/-- six cells written in another block -/
theorem OW.putg {w : World} {base g b c : Nat} {l : List Nat} (h : OW w base (some ⟨g, 0, none⟩) c l) (hb : g ≠ b) (x y z x' y' z' : Value) : OW (wr6 w b x y z x' y' z') base (some ⟨g, 0, none⟩) c l := by
  have f : ∀ {w : World}, OW w base (some ⟨g, 0, none⟩) c l → ∀ i v, OW (w.setCell ⟨b, i, none⟩ v) base (some ⟨g, 0, none⟩) c l := fun O i v => O.far (fun g' hA => by cases hA; exact hb) _
  exact f (f (f (f (f (f h 0 x) 1 y) 2 z) 3 x') 4 y') 5 z'
theorem rwq_z' : rwq 0 = ⟨false, [], [1]⟩ := by rw [← digs_one1, ← digs_zero]; rfl
theorem rwq_zi : rwq ((0 : Int) : Rat) = ⟨false, [], [1]⟩ := rwq_z'
/-- a whole number, so taken -/
theorem rwq_int (s : Bool) (v : Nat) (h : v = 0 → s = false) : rwq ((sgn s v : Int) : Rat) = ⟨s, digs v, [1]⟩ := by
  have e1 : qn ((sgn s v : Int) : Rat) = s := by
    rw [qn_int]
    cases s with
    | true =>
      have hv : v ≠ 0 := fun e => by have := h e; cases this
      rw [sgn_true]; exact decide_eq_true (by omega)
    | false => rw [sgn_false]; exact decide_eq_false (by omega)
  have e2 : qt ((sgn s v : Int) : Rat) = v := by
    rw [qt_int]
    cases s with
    | true => rw [sgn_true]; omega
    | false => rw [sgn_false]; omega
  unfold rwq
  rw [e1, e2, qd_int, digs_one1]
theorem qw_int (s : Bool) (v : Nat) : qw ((sgn s v : Int) : Rat) = max (digs v).length 1 := by
  unfold qw
  have e2 : qt ((sgn s v : Int) : Rat) = v := by
    rw [qt_int]
    cases s with
    | true => rw [sgn_true]; omega
    | false => rw [sgn_false]; omega
  rw [e2, qd_int, digs_one1]
  rfl
theorem qw_zero : qw 0 = 1 := by
  unfold qw
  rw [show qt 0 = 0 from rfl, show qd 0 = 1 from rfl, digs_one1, digs_zero]; rfl
/-- an answer: a number of blocks from base on, and an error's number -/
def RetNB (base : Nat) (w : World) (x : Rw × Rw × Int) (e : Ending) (w' : World) : Prop := ∃ A1 c1 D1 d1 A2 c2 D2 d2, e = .returned (.tuple #[.agg #[.bool x.1.s, .slice A1 x.1.a.length c1, .slice D1 x.1.b.length d1, .bool x.2.1.s, .slice A2 x.2.1.a.length c2, .slice D2 x.2.1.b.length d2], .int .i64 x.2.2]) ∧
  OW w' base A1 c1 x.1.a ∧ OW w' base D1 d1 x.1.b ∧ OW w' base A2 c2 x.2.1.a ∧ OW w' base D2 d2 x.2.1.b ∧ Below base w w'
theorem RetNB.ne {w w1 w2 : World} {x : Rw × Rw × Int} {e : Ending} (h : RetNB w.heap.size w1 x e w2) (hb : Below w.heap.size w w1) : RetNE w x e w2 := by
  obtain ⟨A1, c1, D1, d1, A2, c2, D2, d2, he, o1, o2, o3, o4, B⟩ := h
  exact ⟨A1, c1, D1, d1, A2, c2, D2, d2, he, o1, o2, o3, o4, hb.trans B⟩
theorem retNB_nil {base : Nat} {w w' : World} (k : Int) (hb : Below base w w') : RetNB base w (rw0, rw0, k) (.returned (.tuple #[.agg #[.bool false, .slice none 0 0, .slice none 0 0, .bool false, .slice none 0 0, .slice none 0 0], .int .i64 k])) w' :=
  ⟨none, 0, none, 0, none, 0, none, 0, rfl, OW.nil _ _, OW.nil _ _, OW.nil _ _, OW.nil _ _, hb⟩
/-- what a row is: by its sign -/
theorem num_pos {l : List Nat} (h : val l < 2 ^ (32 * l.length - 1)) : tcI (32 * l.length) (val l) = sgn false (val l) := by
  unfold tcI
  rw [if_pos h, sgn_false]
theorem num_neg {l : List Nat} (hb : B32 l) (h : 2 ^ (32 * l.length - 1) ≤ val l) : tcI (32 * l.length) (val l) = sgn true ((Wp l.length - val l) % Wp l.length) ∧ (Wp l.length - val l) % Wp l.length ≠ 0 := by
  have h1 := val_lt hb
  have h2 : 0 < 2 ^ (32 * l.length - 1) := Nat.pow_pos (by omega)
  have h3 : (Wp l.length - val l) % Wp l.length = Wp l.length - val l := Nat.mod_eq_of_lt (by omega)
  rw [h3]
  unfold tcI
  rw [if_neg (by omega), sgn_true, ← Wp_eq]
  omega
theorem fit_int {s : Bool} {v : Nat} (h0 : v = 0 → s = false) (hl : (digs v).length ≤ 512) : fitQ ((sgn s v : Int) : Rat) 0 = (⟨s, digs v, [1]⟩, ⟨false, [], [1]⟩, 0) := by
  rw [fitQ_ok (by rw [qw_int]; omega) (by rw [qw_zero]; omega), rwq_int s v h0, rwq_z']
theorem fit_big {s : Bool} {v : Nat} (hl : 512 < (digs v).length) : fitQ ((sgn s v : Int) : Rat) 0 = (rw0, rw0, 4) :=
  fitQ_no (.inl (by rw [qw_int]; omega))


set_option maxRecDepth 100000 in
set_option maxHeartbeats 8000000 in
theorem bnum_false (g c m : Nat) (l : List Nat) (w : World) (base : Nat) (h : OW w base (some ⟨g, 0, none⟩) c l) (hl : l.length = m + 1) (hm : m < 1000000) (hbase : base ≤ w.heap.size)
    (hd : wd l m / 2147483648 = 0) (l' : List Nat) (hl' : l' = l) (hll : l'.length = m + 1) :
    Calls Try.prog 45 #[.slice (some ⟨g, 0, none⟩) (m + 1) c] w fun e w' => (512 < (digs (val l')).length → RetNB base w (rw0, rw0, 4) e w') ∧ ((digs (val l')).length ≤ 512 → RetNB base w (⟨false, digs (val l'), [1]⟩, ⟨false, [], [1]⟩, 0) e w') := by
  have hlt := h.lt
  have hb := wd_lt h.b32 m
  have C1 := bal w (.cells #[.bool false, .slice none 0 0, .slice none 0 0, .bool false, .slice none 0 0, .slice none 0 0] 26)
  have S1 := SB.new w [.bool false, .slice none 0 0, .slice none 0 0, .bool false, .slice none 0 0, .slice none 0 0] 26
  have hI := int_any 0 (w.alloc (.cells #[.bool false, .slice none 0 0, .slice none 0 0, .bool false, .slice none 0 0, .slice none 0 0] 26)) (by omega) (by omega)
  have T1 : ((wd l m / 2147483648 : Nat) : Int) = 0 := by omega
  have T1 := Lib.hid T1
  clear hd
  go_enter Try.func45, Try.ntmps45
  go_wp2_with fail
  refine hI.mono ?_; rintro e w3 ⟨A1, c1, D1, d1, A2, c2, D2, d2, rfl, O1, O2, O3, O4, B3⟩
  rw [rwq_zi] at O1 O2 ⊢
  rw [rwq_z'] at O3 O4 ⊢
  dsimp only [List.length_nil, List.length_cons, Nat.zero_add] at O1 O2 O3 O4 ⊢
  have L3 := bal w3 (.cells #[.bool false, .slice A1 0 c1, .slice D1 1 d1, .bool false, .slice A2 0 c2, .slice D2 1 d2] 26)
  have Sn := SB.new w3 [.bool false, .slice A1 0 c1, .slice D1 1 d1, .bool false, .slice A2 0 c2, .slice D2 1 d2] 26
  have S4 := (S1.nx B3).nx L3
  have C4 := bt (bt C1 B3) L3
  have z3 := (S1.nx B3).2
  have hw0 : (w.alloc (.cells #[.bool false, .slice none 0 0, .slice none 0 0, .bool false, .slice none 0 0, .slice none 0 0] 26)).heap.size = w.heap.size + 1 := by simp
  have b2 := O2.bet
  have b3 := O3.bet
  have b4 := O4.bet
  have o2 := O2.alloc (.cells #[.bool false, .slice A1 0 c1, .slice D1 1 d1, .bool false, .slice A2 0 c2, .slice D2 1 d2] 26)
  have o3 := O3.alloc (.cells #[.bool false, .slice A1 0 c1, .slice D1 1 d1, .bool false, .slice A2 0 c2, .slice D2 1 d2] 26)
  have o4 := O4.alloc (.cells #[.bool false, .slice A1 0 c1, .slice D1 1 d1, .bool false, .slice A2 0 c2, .slice D2 1 d2] 26)
  have h4 := h.below C4 (Nat.le_refl _)
  obtain ⟨W4, hW4⟩ : ∃ W4, W4 = w3.alloc (.cells #[.bool false, .slice A1 0 c1, .slice D1 1 d1, .bool false, .slice A2 0 c2, .slice D2 1 d2] 26) := ⟨_, rfl⟩
  go_upto_region 2 with fail
  rw [← hW4] at S4 C4 o2 o3 o4 h4 Sn ⊢
  clear hW4 S1 B3 L3 C1 O1 O2 O3 O4
  have cg := h4.cell (k := m) (by omega)
  have hne : w3.heap.size ≠ g := by omega
  have hown : ∀ A cc ll, OW W4 (w.alloc (.cells #[.bool false, .slice none 0 0, .slice none 0 0, .bool false, .slice none 0 0, .slice none 0 0] 26)).heap.size A cc ll → ∀ g', A = some ⟨g', 0, none⟩ → some g ≠ some g' := fun A cc ll O g' hA hs => by
    subst hA
    have := O.lt.1
    simp at this hs
    omega
  have C4 := C4.mono hbase

  subst hl'
  have HT := trim_any (some ⟨g, 0, none⟩) c (m + 1) l' W4 hll.symm h4.rw
  rw [trim_len h4.b32] at HT
  have hdl : (digs (val l')).length ≤ m + 1 := by rw [← trim_len h4.b32, ← hll]; exact trimN_le _ _
  have hlc : m + 1 ≤ c := by have := h4.lc; omega
  have hN := h4.norm
  clear h4 hll
  obtain ⟨d, hd⟩ : ∃ d, Hid (digs (val l') = d) := ⟨_, rfl⟩
  rw [hd.out] at HT hdl hN
  go_wp2_with fail
  refine HT.mono ?_; rintro e w7 ⟨rfl, rfl⟩
  clear HT
  have i1 := Sn.cell 1
  have f1 := Sn.frozen 1
  go_upto_region 6 with fail
  clear i1 f1
  have Sn := Sn.set 1 (.slice (some ⟨g, 0, none⟩) d.length c)
  have S4 := S4.far (p := ⟨w3.heap.size, 1, none⟩) (by show w.heap.size ≠ w3.heap.size; omega) (.slice (some ⟨g, 0, none⟩) d.length c)
  have C4 := C4.setCell (p := ⟨w3.heap.size, 1, none⟩) (by show base ≤ w3.heap.size; omega) (.slice (some ⟨g, 0, none⟩) d.length c)
  have hN := hN.far (p := ⟨w3.heap.size, 1, none⟩) (fun g' hA => by cases hA; show g ≠ w3.heap.size; omega) (.slice (some ⟨g, 0, none⟩) d.length c)
  have o2 := o2.far (p := ⟨w3.heap.size, 1, none⟩) (fun g' hA => by have := b2 g' hA; have h' := hw0; show g' ≠ w3.heap.size; omega) (.slice (some ⟨g, 0, none⟩) d.length c)
  have o3 := o3.far (p := ⟨w3.heap.size, 1, none⟩) (fun g' hA => by have := b3 g' hA; have h' := hw0; show g' ≠ w3.heap.size; omega) (.slice (some ⟨g, 0, none⟩) d.length c)
  have o4 := o4.far (p := ⟨w3.heap.size, 1, none⟩) (fun g' hA => by have := b4 g' hA; have h' := hw0; show g' ≠ w3.heap.size; omega) (.slice (some ⟨g, 0, none⟩) d.length c)

  obtain ⟨w8, hW8⟩ : ∃ w8, w8 = W4.setCell ⟨w3.heap.size, 1, none⟩ (.slice (some ⟨g, 0, none⟩) d.length c) := ⟨_, rfl⟩
  rw [← hW8] at Sn S4 C4 hN o2 o3 o4 ⊢
  clear hW8
  clear h
  by_cases h5 : 512 < d.length
  · have hRC := S4.rc (n := 6)
    have n0 := Sn.cell 0
    have n1 := Sn.cell 1
    go_wp2_with (refine wp_st6 rfl (.tmp 2) (.tmp 29) rfl _ rfl _ _ _ _ _ _ rfl hRC rfl rfl rfl rfl rfl rfl ?_)
    have s6 := hRC.put6 (.bool false) (.slice none 0 0) (.slice none 0 0) (.bool false) (.slice none 0 0) (.slice none 0 0)
    have B6 := wr6_below (b := w.heap.size) C4 hbase (.bool false) (.slice none 0 0) (.slice none 0 0) (.bool false) (.slice none 0 0) (.slice none 0 0)
    have r0' := s6.cell 0
    have r1' := s6.cell 1
    have r2' := s6.cell 2
    have r3' := s6.cell 3
    have r4' := s6.cell 4
    have r5' := s6.cell 5
    refine bodyPost_ret (v := .tuple #[.agg #[.bool false, .slice none 0 0, .slice none 0 0, .bool false, .slice none 0 0, .slice none 0 0], .int .i64 4]) (by simp [results, r0', r1', r2', r3', r4', r5', go_sem]) rfl ?_
    rw [hd.out]
    exact ⟨fun _ => retNB_nil 4 B6, fun h => absurd h5 (by omega)⟩
  · have hRC := S4.rc (n := 6)
    have n0 := Sn.cell 0
    have n1 := Sn.cell 1
    have n2 := Sn.cell 2
    have n3 := Sn.cell 3
    have n4 := Sn.cell 4
    have n5 := Sn.cell 5
    go_wp2_with (refine wp_st6 rfl (.tmp 2) (.tmp 30) rfl _ rfl _ _ _ _ _ _ rfl hRC rfl rfl rfl rfl rfl rfl ?_)
    clear n0 n1 n2 n3 n4 n5
    have s6 := hRC.put6 (.bool false) (.slice (some ⟨g, 0, none⟩) d.length c) (.slice D1 1 d1) (.bool false) (.slice A2 0 c2) (.slice D2 1 d2)
    have B6 := wr6_below (b := w.heap.size) C4 hbase (.bool false) (.slice (some ⟨g, 0, none⟩) d.length c) (.slice D1 1 d1) (.bool false) (.slice A2 0 c2) (.slice D2 1 d2)
    have o3 := o3.put6 (b := w.heap.size) (by omega) (.bool false) (.slice (some ⟨g, 0, none⟩) d.length c) (.slice D1 1 d1) (.bool false) (.slice A2 0 c2) (.slice D2 1 d2)
    have o4 := o4.put6 (b := w.heap.size) (by omega) (.bool false) (.slice (some ⟨g, 0, none⟩) d.length c) (.slice D1 1 d1) (.bool false) (.slice A2 0 c2) (.slice D2 1 d2)
    have o2 := o2.put6 (b := w.heap.size) (by omega) (.bool false) (.slice (some ⟨g, 0, none⟩) d.length c) (.slice D1 1 d1) (.bool false) (.slice A2 0 c2) (.slice D2 1 d2)
    have hN := hN.putg (b := w.heap.size) (by omega) (.bool false) (.slice (some ⟨g, 0, none⟩) d.length c) (.slice D1 1 d1) (.bool false) (.slice A2 0 c2) (.slice D2 1 d2)
    have r0' := s6.cell 0
    have r1' := s6.cell 1
    have r2' := s6.cell 2
    have r3' := s6.cell 3
    have r4' := s6.cell 4
    have r5' := s6.cell 5
    refine bodyPost_ret (v := .tuple #[.agg #[.bool false, .slice (some ⟨g, 0, none⟩) d.length c, .slice D1 1 d1, .bool false, .slice A2 0 c2, .slice D2 1 d2], .int .i64 0]) (by simp [results, r0', r1', r2', r3', r4', r5', go_sem]) rfl ?_
    rw [hd.out]
    exact ⟨fun h => absurd h h5, fun _ => ⟨_, _, _, _, _, _, _, _, rfl, hN, o2.base_le (by omega), o3.base_le (by omega), o4.base_le (by omega), B6⟩⟩


set_option maxRecDepth 100000 in
set_option maxHeartbeats 8000000 in
theorem bnum_true (g c m : Nat) (l : List Nat) (w : World) (base : Nat) (h : OW w base (some ⟨g, 0, none⟩) c l) (hl : l.length = m + 1) (hm : m < 1000000) (hbase : base ≤ w.heap.size)
    (hd : wd l m / 2147483648 = 1) (l' : List Nat) (hl' : l' = wordsN (m + 1) ((Wp (m + 1) - val l) % Wp (m + 1))) (hll : l'.length = m + 1) :
    Calls Try.prog 45 #[.slice (some ⟨g, 0, none⟩) (m + 1) c] w fun e w' => (512 < (digs (val l')).length → RetNB base w (rw0, rw0, 4) e w') ∧ ((digs (val l')).length ≤ 512 → RetNB base w (⟨true, digs (val l'), [1]⟩, ⟨false, [], [1]⟩, 0) e w') := by
  have hlt := h.lt
  have hb := wd_lt h.b32 m
  have C1 := bal w (.cells #[.bool false, .slice none 0 0, .slice none 0 0, .bool false, .slice none 0 0, .slice none 0 0] 26)
  have S1 := SB.new w [.bool false, .slice none 0 0, .slice none 0 0, .bool false, .slice none 0 0, .slice none 0 0] 26
  have hI := int_any 0 (w.alloc (.cells #[.bool false, .slice none 0 0, .slice none 0 0, .bool false, .slice none 0 0, .slice none 0 0] 26)) (by omega) (by omega)
  have T1 : ((wd l m / 2147483648 : Nat) : Int) = 1 := by omega
  have T1 := Lib.hid T1
  clear hd
  go_enter Try.func45, Try.ntmps45
  go_wp2_with fail
  refine hI.mono ?_; rintro e w3 ⟨A1, c1, D1, d1, A2, c2, D2, d2, rfl, O1, O2, O3, O4, B3⟩
  rw [rwq_zi] at O1 O2 ⊢
  rw [rwq_z'] at O3 O4 ⊢
  dsimp only [List.length_nil, List.length_cons, Nat.zero_add] at O1 O2 O3 O4 ⊢
  have L3 := bal w3 (.cells #[.bool false, .slice A1 0 c1, .slice D1 1 d1, .bool false, .slice A2 0 c2, .slice D2 1 d2] 26)
  have Sn := SB.new w3 [.bool false, .slice A1 0 c1, .slice D1 1 d1, .bool false, .slice A2 0 c2, .slice D2 1 d2] 26
  have S4 := (S1.nx B3).nx L3
  have C4 := bt (bt C1 B3) L3
  have z3 := (S1.nx B3).2
  have hw0 : (w.alloc (.cells #[.bool false, .slice none 0 0, .slice none 0 0, .bool false, .slice none 0 0, .slice none 0 0] 26)).heap.size = w.heap.size + 1 := by simp
  have b2 := O2.bet
  have b3 := O3.bet
  have b4 := O4.bet
  have o2 := O2.alloc (.cells #[.bool false, .slice A1 0 c1, .slice D1 1 d1, .bool false, .slice A2 0 c2, .slice D2 1 d2] 26)
  have o3 := O3.alloc (.cells #[.bool false, .slice A1 0 c1, .slice D1 1 d1, .bool false, .slice A2 0 c2, .slice D2 1 d2] 26)
  have o4 := O4.alloc (.cells #[.bool false, .slice A1 0 c1, .slice D1 1 d1, .bool false, .slice A2 0 c2, .slice D2 1 d2] 26)
  have h4 := h.below C4 (Nat.le_refl _)
  obtain ⟨W4, hW4⟩ : ∃ W4, W4 = w3.alloc (.cells #[.bool false, .slice A1 0 c1, .slice D1 1 d1, .bool false, .slice A2 0 c2, .slice D2 1 d2] 26) := ⟨_, rfl⟩
  go_upto_region 2 with fail
  rw [← hW4] at S4 C4 o2 o3 o4 h4 Sn ⊢
  clear hW4 S1 B3 L3 C1 O1 O2 O3 O4
  have cg := h4.cell (k := m) (by omega)
  have hne : w3.heap.size ≠ g := by omega
  have hown : ∀ A cc ll, OW W4 (w.alloc (.cells #[.bool false, .slice none 0 0, .slice none 0 0, .bool false, .slice none 0 0, .slice none 0 0] 26)).heap.size A cc ll → ∀ g', A = some ⟨g', 0, none⟩ → some g ≠ some g' := fun A cc ll O g' hA hs => by
    subst hA
    have := O.lt.1
    simp at this hs
    omega
  have C4 := C4.mono hbase
  have hT := turn_any g c l W4 base h4
  rw [hl, ← hl'] at hT
  go_wp2_with fail
  refine hT.mono ?_; rintro e w5 ⟨rfl, O5, B5, G5⟩
  clear hT cg T1
  have o2 := o2.grown G5 (hown _ _ _ o2)
  have o3 := o3.grown G5 (hown _ _ _ o3)
  have o4 := o4.grown G5 (hown _ _ _ o4)
  have Sn := Sn.grown G5 hne
  have S4 := S4.grown G5 (by omega)
  have C4 := C4.trans B5
  have i0 := Sn.cell 0
  have f0 := Sn.frozen 0
  go_upto_region 5 with fail
  clear i0 f0
  have Sn := Sn.set 0 (.bool true)
  have S4 := S4.far (p := ⟨w3.heap.size, 0, none⟩) (by show w.heap.size ≠ w3.heap.size; omega) (.bool true)
  have C4 := C4.setCell (p := ⟨w3.heap.size, 0, none⟩) (by show base ≤ w3.heap.size; omega) (.bool true)
  have O6 := O5.far (p := ⟨w3.heap.size, 0, none⟩) (fun g' hA => by cases hA; show g ≠ w3.heap.size; omega) (.bool true)
  have o2 := o2.far (p := ⟨w3.heap.size, 0, none⟩) (fun g' hA => by have := b2 g' hA; have h' := hw0; show g' ≠ w3.heap.size; omega) (.bool true)
  have o3 := o3.far (p := ⟨w3.heap.size, 0, none⟩) (fun g' hA => by have := b3 g' hA; have h' := hw0; show g' ≠ w3.heap.size; omega) (.bool true)
  have o4 := o4.far (p := ⟨w3.heap.size, 0, none⟩) (fun g' hA => by have := b4 g' hA; have h' := hw0; show g' ≠ w3.heap.size; omega) (.bool true)
  obtain ⟨w6, hW6⟩ : ∃ w6, w6 = w5.setCell ⟨w3.heap.size, 0, none⟩ (.bool true) := ⟨_, rfl⟩
  rw [← hW6] at Sn S4 C4 O6 o2 o3 o4 ⊢
  clear hW6 O5

  have HT := trim_any (some ⟨g, 0, none⟩) c (m + 1) l' w6 hll.symm O6.rw
  rw [trim_len O6.b32] at HT
  have hdl : (digs (val l')).length ≤ m + 1 := by rw [← trim_len O6.b32, ← hll]; exact trimN_le _ _
  have hlc : m + 1 ≤ c := by have := O6.lc; omega
  have hN := O6.norm
  clear O6 hll
  obtain ⟨d, hd⟩ : ∃ d, Hid (digs (val l') = d) := ⟨_, rfl⟩
  rw [hd.out] at HT hdl hN
  go_wp2_with fail
  refine HT.mono ?_; rintro e w7 ⟨rfl, rfl⟩
  clear HT
  have i1 := Sn.cell 1
  have f1 := Sn.frozen 1
  go_upto_region 6 with fail
  clear i1 f1
  have Sn := Sn.set 1 (.slice (some ⟨g, 0, none⟩) d.length c)
  have S4 := S4.far (p := ⟨w3.heap.size, 1, none⟩) (by show w.heap.size ≠ w3.heap.size; omega) (.slice (some ⟨g, 0, none⟩) d.length c)
  have C4 := C4.setCell (p := ⟨w3.heap.size, 1, none⟩) (by show base ≤ w3.heap.size; omega) (.slice (some ⟨g, 0, none⟩) d.length c)
  have hN := hN.far (p := ⟨w3.heap.size, 1, none⟩) (fun g' hA => by cases hA; show g ≠ w3.heap.size; omega) (.slice (some ⟨g, 0, none⟩) d.length c)
  have o2 := o2.far (p := ⟨w3.heap.size, 1, none⟩) (fun g' hA => by have := b2 g' hA; have h' := hw0; show g' ≠ w3.heap.size; omega) (.slice (some ⟨g, 0, none⟩) d.length c)
  have o3 := o3.far (p := ⟨w3.heap.size, 1, none⟩) (fun g' hA => by have := b3 g' hA; have h' := hw0; show g' ≠ w3.heap.size; omega) (.slice (some ⟨g, 0, none⟩) d.length c)
  have o4 := o4.far (p := ⟨w3.heap.size, 1, none⟩) (fun g' hA => by have := b4 g' hA; have h' := hw0; show g' ≠ w3.heap.size; omega) (.slice (some ⟨g, 0, none⟩) d.length c)

  obtain ⟨w8, hW8⟩ : ∃ w8, w8 = w6.setCell ⟨w3.heap.size, 1, none⟩ (.slice (some ⟨g, 0, none⟩) d.length c) := ⟨_, rfl⟩
  rw [← hW8] at Sn S4 C4 hN o2 o3 o4 ⊢
  clear hW8
  clear h
  by_cases h5 : 512 < d.length
  · have hRC := S4.rc (n := 6)
    have n0 := Sn.cell 0
    have n1 := Sn.cell 1
    go_wp2_with (refine wp_st6 rfl (.tmp 2) (.tmp 29) rfl _ rfl _ _ _ _ _ _ rfl hRC rfl rfl rfl rfl rfl rfl ?_)
    have s6 := hRC.put6 (.bool false) (.slice none 0 0) (.slice none 0 0) (.bool false) (.slice none 0 0) (.slice none 0 0)
    have B6 := wr6_below (b := w.heap.size) C4 hbase (.bool false) (.slice none 0 0) (.slice none 0 0) (.bool false) (.slice none 0 0) (.slice none 0 0)
    have r0' := s6.cell 0
    have r1' := s6.cell 1
    have r2' := s6.cell 2
    have r3' := s6.cell 3
    have r4' := s6.cell 4
    have r5' := s6.cell 5
    refine bodyPost_ret (v := .tuple #[.agg #[.bool false, .slice none 0 0, .slice none 0 0, .bool false, .slice none 0 0, .slice none 0 0], .int .i64 4]) (by simp [results, r0', r1', r2', r3', r4', r5', go_sem]) rfl ?_
    rw [hd.out]
    exact ⟨fun _ => retNB_nil 4 B6, fun h => absurd h5 (by omega)⟩
  · have hRC := S4.rc (n := 6)
    have n0 := Sn.cell 0
    have n1 := Sn.cell 1
    have n2 := Sn.cell 2
    have n3 := Sn.cell 3
    have n4 := Sn.cell 4
    have n5 := Sn.cell 5
    go_wp2_with (refine wp_st6 rfl (.tmp 2) (.tmp 30) rfl _ rfl _ _ _ _ _ _ rfl hRC rfl rfl rfl rfl rfl rfl ?_)
    clear n0 n1 n2 n3 n4 n5
    have s6 := hRC.put6 (.bool true) (.slice (some ⟨g, 0, none⟩) d.length c) (.slice D1 1 d1) (.bool false) (.slice A2 0 c2) (.slice D2 1 d2)
    have B6 := wr6_below (b := w.heap.size) C4 hbase (.bool true) (.slice (some ⟨g, 0, none⟩) d.length c) (.slice D1 1 d1) (.bool false) (.slice A2 0 c2) (.slice D2 1 d2)
    have o3 := o3.put6 (b := w.heap.size) (by omega) (.bool true) (.slice (some ⟨g, 0, none⟩) d.length c) (.slice D1 1 d1) (.bool false) (.slice A2 0 c2) (.slice D2 1 d2)
    have o4 := o4.put6 (b := w.heap.size) (by omega) (.bool true) (.slice (some ⟨g, 0, none⟩) d.length c) (.slice D1 1 d1) (.bool false) (.slice A2 0 c2) (.slice D2 1 d2)
    have o2 := o2.put6 (b := w.heap.size) (by omega) (.bool true) (.slice (some ⟨g, 0, none⟩) d.length c) (.slice D1 1 d1) (.bool false) (.slice A2 0 c2) (.slice D2 1 d2)
    have hN := hN.putg (b := w.heap.size) (by omega) (.bool true) (.slice (some ⟨g, 0, none⟩) d.length c) (.slice D1 1 d1) (.bool false) (.slice A2 0 c2) (.slice D2 1 d2)
    have r0' := s6.cell 0
    have r1' := s6.cell 1
    have r2' := s6.cell 2
    have r3' := s6.cell 3
    have r4' := s6.cell 4
    have r5' := s6.cell 5
    refine bodyPost_ret (v := .tuple #[.agg #[.bool true, .slice (some ⟨g, 0, none⟩) d.length c, .slice D1 1 d1, .bool false, .slice A2 0 c2, .slice D2 1 d2], .int .i64 0]) (by simp [results, r0', r1', r2', r3', r4', r5', go_sem]) rfl ?_
    rw [hd.out]
    exact ⟨fun h => absurd h h5, fun _ => ⟨_, _, _, _, _, _, _, _, rfl, hN, o2.base_le (by omega), o3.base_le (by omega), o4.base_le (by omega), B6⟩⟩

/-- number: what a row is -/
theorem bnum_any (g c : Nat) (l : List Nat) (w : World) (base : Nat) (h : OW w base (some ⟨g, 0, none⟩) c l) (h0 : 0 < l.length) (h1 : l.length ≤ 1000000) (hbase : base ≤ w.heap.size) :
    Calls Try.prog 45 #[.slice (some ⟨g, 0, none⟩) l.length c] w (RetNB base w (fitQ ((tcI (32 * l.length) (val l) : Int) : Rat) 0)) := by
  obtain ⟨m, hm⟩ : ∃ m, l.length = m + 1 := ⟨l.length - 1, by omega⟩
  rcases top_sign h.b32 h0 with ⟨hd, hv⟩ | ⟨hd, hv⟩
  · obtain ⟨e, hn⟩ := num_neg h.b32 hv
    rw [e]
    rw [hm] at hd
    have hw := wordsN_val (n := l.length) (v := (Wp l.length - val l) % Wp l.length) (Nat.mod_lt _ (Wp_pos _))
    rw [hm] at hw hn ⊢
    refine (bnum_true g c m l w base h hm (by omega) hbase hd _ rfl (wordsN_len ..)).mono ?_
    rintro e' w' ⟨k1, k2⟩
    rw [hw] at k1 k2
    by_cases h5 : 512 < (digs ((Wp (m + 1) - val l) % Wp (m + 1))).length
    · rw [fit_big h5]; exact k1 h5
    · rw [fit_int (fun h => absurd h hn) (by omega)]; exact k2 (by omega)
  · rw [num_pos hv]
    rw [hm] at hd ⊢
    refine (bnum_false g c m l w base h hm (by omega) hbase hd _ rfl hm).mono ?_
    rintro e' w' ⟨k1, k2⟩
    by_cases h5 : 512 < (digs (val l)).length
    · rw [fit_big h5]; exact k1 h5
    · rw [fit_int (fun _ => rfl) (by omega)]; exact k2 (by omega)

end Go.Proofs.Ytnlgoedklmjhlaa
namespace Go.Proofs.Ytnlgoedklmjhlaa
open Go.RowKit

/-- structs in their blocks, a result's n cells in block r, and nothing changed below w -/
def SL (w : World) (r n : Nat) (L : List (Nat × List Value)) (w' : World) : Prop := (∀ p ∈ L, SB w' p.1 p.2 ∧ p.1 ≠ r) ∧ (RC w' r n ∧ w.heap.size ≤ r) ∧ Below w.heap.size w w'
section
variable {w w1 w2 : World} {r n : Nat} {L : List (Nat × List Value)} {p0 p1 p2 p3 p4 p5 : Nat × List Value}
theorem SL.nx (h : SL w r n L w1) (hb : Below w1.heap.size w1 w2) : SL w r n L w2 := ⟨fun p hp => ⟨(h.1 p hp).1.nx hb, (h.1 p hp).2⟩, ⟨h.2.1.1.nx hb, h.2.1.2⟩, bt h.2.2 hb⟩
theorem SL.dr (h : SL w r n L w1) : SL w r n L w1.drew := ⟨h.1, h.2.1, bdN h.2.2 1⟩
theorem SL.drN (h : SL w r n L w1) (k : Nat) : SL w r n L (w1.drewN k) := ⟨h.1, h.2.1, bdN h.2.2 k⟩
theorem SL.rc (h : SL w r n L w1) : RC w1 r n := h.2.1.1
theorem SL.bl (h : SL w r n L w1) : Below w.heap.size w w1 := h.2.2
theorem SL.hr (h : SL w r n L w1) : w.heap.size ≤ r := h.2.1.2
theorem SL.put6 (h : SL w r 6 L w1) (x y z x' y' z' : Value) : SL w r 6 L (Go.Proofs.Ytnlgoedklmjhlaa.wr6 w1 r x y z x' y' z') :=
  ⟨fun p hp => ⟨(h.1 p hp).1.wr6 (h.1 p hp).2 x y z x' y' z', (h.1 p hp).2⟩, ⟨(h.rc.put6 x y z x' y' z').rc, h.hr⟩, wr6_below h.bl h.hr x y z x' y' z'⟩
theorem SL.put3 (h : SL w r 3 L w1) (x y z : Value) : SL w r 3 L (Go.Proofs.Ytnlgoedklmjhlaa.wr3 w1 r x y z) :=
  ⟨fun p hp => ⟨(h.1 p hp).1.wr3 (h.1 p hp).2 x y z, (h.1 p hp).2⟩, ⟨(h.rc.put3 x y z).rc, h.hr⟩, wr3_below h.bl h.hr x y z⟩
theorem SL.cons (h : SL w r n L w1) {b : Nat} {l : List Value} (hb : SB w1 b l) (hne : b ≠ r) : SL w r n ((b, l) :: L) w1 :=
  ⟨fun p hp => (List.mem_cons.1 hp).elim (fun e => by rw [e]; exact ⟨hb, hne⟩) (fun hp => h.1 p hp), h.2.1, h.2.2⟩
theorem SL.start (hr : RC w1 r n) (hw : w.heap.size ≤ r) (hb : Below w.heap.size w w1) : SL w r n [] w1 := ⟨fun p hp => by simp at hp, ⟨hr, hw⟩, hb⟩
theorem SL.tl (h : SL w r n (p0 :: L) w1) : SL w r n L w1 := ⟨fun p hp => h.1 p (List.mem_cons_of_mem _ hp), h.2.1, h.2.2⟩
theorem SL.a0 (h : SL w r n (p0 :: L) w1) : SB w1 p0.1 p0.2 := (h.1 p0 (by simp)).1
theorem SL.a1 (h : SL w r n (p0 :: p1 :: L) w1) : SB w1 p1.1 p1.2 := h.tl.a0
theorem SL.a2 (h : SL w r n (p0 :: p1 :: p2 :: L) w1) : SB w1 p2.1 p2.2 := h.tl.a1
theorem SL.a3 (h : SL w r n (p0 :: p1 :: p2 :: p3 :: L) w1) : SB w1 p3.1 p3.2 := h.tl.a2
theorem SL.a4 (h : SL w r n (p0 :: p1 :: p2 :: p3 :: p4 :: L) w1) : SB w1 p4.1 p4.2 := h.tl.a3
theorem SL.a5 (h : SL w r n (p0 :: p1 :: p2 :: p3 :: p4 :: p5 :: L) w1) : SB w1 p5.1 p5.2 := h.tl.a4
end
/-- one word in a block, read as a list -/
theorem SB.one {w : World} {b : Nat} {x : Nat} (h : SB w b [.int .u32 (x : Int)]) (hx : x < 4294967296) : RW w w.heap.size (some ⟨b, 0, none⟩) 1 [x] := by
  refine ⟨⟨by simp, by simp, fun _ => ⟨b, 0, rfl, h.2, fun k y hk => ?_⟩⟩, fun y hy => by simp at hy; omega⟩
  match k, hk with
  | 0, hk => simp at hk; subst hk; exact h.cell 0
/-- a number that may be read, of whatever blocks -/
def RetVN (w : World) (r i : Rw) (e : Ending) (w' : World) : Prop := ∃ A1 c1 D1 d1 A2 c2 D2 d2, e = .returned (.agg #[.bool r.s, .slice A1 r.a.length c1, .slice D1 r.b.length d1, .bool i.s, .slice A2 i.a.length c2, .slice D2 i.b.length d2]) ∧
  RW w' w'.heap.size A1 c1 r.a ∧ RW w' w'.heap.size D1 d1 r.b ∧ RW w' w'.heap.size A2 c2 i.a ∧ RW w' w'.heap.size D2 d2 i.b ∧ Below w.heap.size w w'
/-- a number that may be read, and an error's number -/
def RetVNE (w : World) (x : Rw × Rw × Int) (e : Ending) (w' : World) : Prop := ∃ A1 c1 D1 d1 A2 c2 D2 d2, e = .returned (.tuple #[.agg #[.bool x.1.s, .slice A1 x.1.a.length c1, .slice D1 x.1.b.length d1, .bool x.2.1.s, .slice A2 x.2.1.a.length c2, .slice D2 x.2.1.b.length d2], .int .i64 x.2.2]) ∧
  RW w' w'.heap.size A1 c1 x.1.a ∧ RW w' w'.heap.size D1 d1 x.1.b ∧ RW w' w'.heap.size A2 c2 x.2.1.a ∧ RW w' w'.heap.size D2 d2 x.2.1.b ∧ Below w.heap.size w w'
theorem RetN.v {w w' : World} {r i : Rw} {e : Ending} (h : RetN w r i e w') : RetVN w r i e w' := by
  obtain ⟨A1, c1, D1, d1, A2, c2, D2, d2, he, o1, o2, o3, o4, B⟩ := h
  exact ⟨A1, c1, D1, d1, A2, c2, D2, d2, he, o1.rw, o2.rw, o3.rw, o4.rw, B⟩
theorem RetNE.v {w w' : World} {x : Rw × Rw × Int} {e : Ending} (h : RetNE w x e w') : RetVNE w x e w' := by
  obtain ⟨A1, c1, D1, d1, A2, c2, D2, d2, he, o1, o2, o3, o4, B⟩ := h
  exact ⟨A1, c1, D1, d1, A2, c2, D2, d2, he, o1.rw, o2.rw, o3.rw, o4.rw, B⟩
theorem retVNE_nil {w w' : World} (k : Int) (hb : Below w.heap.size w w') : RetVNE w (rw0, rw0, k) (.returned (.tuple #[.agg #[.bool false, .slice none 0 0, .slice none 0 0, .bool false, .slice none 0 0, .slice none 0 0], .int .i64 k])) w' := (retNE_nil k hb).v
end Go.Proofs.Ytnlgoedklmjhlaa
namespace Go.Proofs.Ytnlgoedklmjhlaa
open Go.RowKit

/-- append(v, r...): behind a row of the call's own (nil too) -/
theorem step_app {P : Program} (w : World) {ops : Array Oper} {o : Oper} {a : Act} {K : Act → World → Prop} {Q : Exit → Act → World → Prop} {E : Prop}
    (T e : TypeId) {α : Type} (f : α → Value) (x0 : α) (by_ : Nat) (hu : P.underlying T = some (.slice e)) (hi : (P.info? e).map (fun i => (i.zero, i.size, i.bytes)) = some (some (f x0), 1, by_)) (h1 : ∀ x, (f x).cells = #[f x] ∧ (f x).oneCell' = true)
    (hg : o.guard = none) (s x : Operand) (hop : o.op = Op.call { callee := Callee.builtin Builtin.append, args := #[s, x], argTypes := #[T, T] })
    (base : Nat) (A : Option Addr) (c n : Nat) (l : List α) (hs : a.eval s = .slice A n c) (hn : n = l.length) (hown : OL e f w base A c l)
    (D : Option Addr) (d m : Nat) (r : List α) (hx : a.eval x = .slice D m d) (hm : m = r.length) (Br : Nat) (hr : RL f w Br D d r)
    (hlen : l.length + r.length ≤ 35184372088832) (hby : (l.length + r.length) * by_ ≤ 140737488355328) (hbase : base ≤ w.heap.size)
    (hK : ∀ A' c' w', OL e f w' base A' c' (l ++ r) → w.grownBy w' (Value.slice A n c).ownBlock → (∀ g, A' = some ⟨g, 0, none⟩ → g < w.heap.size → A = some ⟨g, 0, none⟩) →
      K (a.put o.dst (.slice A' (l ++ r).length c')) w') :
    if Region.wanted o (yielded ops a.tmps) = true then Oper.wp P o a w K Q else E := by
  obtain ⟨i, hi, h0, hi1, h2⟩ := info_parts hi
  subst hn hm
  have hw : Region.wanted o (yielded ops a.tmps) = true := by simp [Region.wanted, hg]
  rw [if_pos hw]
  have key : ∃ v' w', (Builtin.append_ #[T, T] o.type #[.slice A l.length c, .slice D r.length d]).run P w = .ok v' w' ∧ w'.ownsRow base e 1 v' (l.length + r.length) (l.map f ++ r.map f) ∧ w.grownBy w' (Value.slice A l.length c).ownBlock ∧ (v'.ownBlock = (Value.slice A l.length c).ownBlock ∨ v'.ownBlock = some w.heap.size) := by
    by_cases hr0 : r.length = 0
    · have hrn : r = [] := List.eq_nil_of_length_eq_zero hr0
      subst hrn
      exact ⟨_, w, run_append_nil' w hu hi hown.1 D d, by simpa using hown.1, World.grownBy.refl w _, .inl rfl⟩
    · obtain ⟨b, off, rfl, _, hc⟩ := hr.2.2 (by omega)
      obtain ⟨v', w', hrun, q1, q2, _, q4⟩ := run_append_own_at (P := P) w base T o.type e i (f x0) 1 by_ hu hi h0 hi1 h2 (by rw [(h1 x0).1]; rfl) (by omega) (.slice A l.length c) l.length (l.map f) hown.1 ⟨b, off, none⟩ r.length d (r.map f) (by simp)
        (by
          intro j u hj
          rw [List.getElem?_map] at hj
          obtain ⟨y, hy, rfl⟩ := Option.map_eq_some_iff.1 hj
          rw [Addr.add_lit]
          exact hc j y hy)
        (by
          intro u hu
          obtain ⟨y, _, rfl⟩ := List.mem_map.1 hu
          exact (h1 y).2)
        (by unfold maxLen; omega) hby hbase
      exact ⟨v', w', hrun, q1, q2, q4⟩
  obtain ⟨v', w', hrun, q1, q2, q4⟩ := key
  unfold Oper.wp execOp
  simp only [hop, resolve, invoke, builtin, Sem.run_bind, Sem.run_pure, Result.andThen_ok, List.map_toArray, List.map_cons, List.map_nil, hs, hx, hrun]
  have hlen2 : (l ++ r).length = l.length + r.length := List.length_append
  rcases q1.2 with ⟨rfl, hz⟩ | ⟨g, cap, cur, rfl, a1, a2, a3, a4, a5, a6⟩
  · have hO : OL e f w' base none 0 (l ++ r) := ⟨by rw [hlen2, List.map_append, hz]; rw [hz] at q1; exact q1, by omega⟩
    have := hK none 0 w' hO q2 (by intro g hg; cases hg)
    rw [hlen2, hz] at this
    exact this
  · have hO : OL e f w' base (some ⟨g, 0, none⟩) cap (l ++ r) := ⟨by rw [hlen2, List.map_append]; exact q1, by omega⟩
    have := hK (some ⟨g, 0, none⟩) cap w' hO q2 (by
      intro g' hg' hlt
      simp only [Option.some.injEq, Addr.mk.injEq, and_true] at hg'
      subst hg'
      rcases q4 with q | q
      · rcases hown.form with ⟨rfl, _⟩ | ⟨g2, rfl, _⟩
        · simp [Value.ownBlock] at q
        · simp [Value.ownBlock] at q; subst q; rfl
      · simp [Value.ownBlock] at q; omega)
    rw [hlen2] at this
    exact this
end Go.Proofs.Ytnlgoedklmjhlaa
namespace Go.Proofs.Ytnlgoedklmjhlaa
open Go.RowKit

theorem step_appW (w : World) {ops : Array Oper} {o : Oper} {a : Act} {K : Act → World → Prop} {Q : Exit → Act → World → Prop} {E : Prop}
    (hg : o.guard = none) (s x : Operand) (hop : o.op = Op.call { callee := Callee.builtin Builtin.append, args := #[s, x], argTypes := #[22, 22] })
    (base : Nat) (A : Option Addr) (c n : Nat) (l : List Nat) (hs : a.eval s = .slice A n c) (hn : n = l.length) (hown : OW w base A c l)
    (D : Option Addr) (d m : Nat) (r : List Nat) (hx : a.eval x = .slice D m d) (hm : m = r.length) (Br : Nat) (hr : RW w Br D d r)
    (hlen : l.length + r.length ≤ 1000000) (hbase : base ≤ w.heap.size)
    (hK : ∀ A' c' w', OW w' base A' c' (l ++ r) → Below base w w' → K (a.put o.dst (.slice A' (l ++ r).length c')) w') :
    if Region.wanted o (yielded ops a.tmps) = true then Oper.wp Try.prog o a w K Q else E :=
  step_app w 22 46 fw 0 4 Try.underlying22 infoW (fun _ => ⟨rfl, rfl⟩) hg s x hop base A c n l hs hn hown.1 D d m r hx hm Br hr.1 (by omega) (by omega) hbase
    fun A' c' w' h1 h2 _ => hK A' c' w' ⟨h1, B32_append hown.2 hr.2⟩ ((Below.refl _ _).grown h2 hbase (by
      intro k hk
      rcases hown.form with ⟨rfl, _⟩ | ⟨g, rfl, hb, _⟩
      · simp [Value.ownBlock] at hk
      · simp [Value.ownBlock] at hk; omega))
end Go.Proofs.Ytnlgoedklmjhlaa
namespace Go.Proofs.Ytnlgoedklmjhlaa
open Go.RowKit

theorem qn_one : qn 1 = false := by unfold qn; exact decide_eq_false (by decide)
theorem qt_one : qt 1 = 1 := rfl
theorem qd_one : qd 1 = 1 := rfl
theorem qw_one : qw 1 = 1 := by unfold qw; rw [qt_one, qd_one, digs_one1]; rfl


theorem rqm {w : World} {A D : Option Addr} {c d : Nat} {q : Rat} (h1 : RW w w.heap.size A c (digs (qt q))) (h2 : RW w w.heap.size D d (digs (qd q))) : RQ w w.heap.size (.agg #[.bool (qn (-q)), .slice A (digs (qt (-q))).length c, .slice D (digs (qd (-q))).length d]) (-q) :=
  ⟨A, c, D, d, rfl, by rw [q_neg_t]; exact h1, by rw [q_neg_d]; exact h2⟩
set_option maxRecDepth 100000 in
set_option maxHeartbeats 8000000 in
theorem rturn_any (x : Rat) (s2 : Bool) (A1 D1 A2 D2 : Option Addr) (c1 d1 c2 d2 n2 m2 : Nat) (w : World) (r1 : RW w w.heap.size A1 c1 (digs (qt x))) (r2 : RW w w.heap.size D1 d1 (digs (qd x))) (bx : qw x ≤ 13000) :
    Calls Try.prog 40 #[.agg #[.bool (qn x), .slice A1 (digs (qt x)).length c1, .slice D1 (digs (qd x)).length d1, .bool s2, .slice A2 n2 c2, .slice D2 m2 d2]] w fun e w' => ∃ A c D d, e = .returned (.agg #[.bool (qn (-x + -1)), .slice A (digs (qt (-x + -1))).length c, .slice D (digs (qd (-x + -1))).length d, .bool s2, .slice A2 n2 c2, .slice D2 m2 d2]) ∧ OW w' w.heap.size A c (digs (qt (-x + -1))) ∧ OW w' w.heap.size D d (digs (qd (-x + -1))) ∧ Below w.heap.size w w' := by
  have hb : qw (-x) + qw (-1) ≤ 14000 := by rw [qw_neg, qw_neg, qw_one]; omega
  have k0 := S2.new w [.bool (qn x), .slice A1 (digs (qt x)).length c1, .slice D1 (digs (qd x)).length d1, .bool s2, .slice A2 n2 c2, .slice D2 m2 d2] [.bool false, .slice none 0 0, .slice none 0 0, .bool false, .slice none 0 0, .slice none 0 0] 26 26 6
  have z2 : ((w.alloc (.cells #[.bool (qn x), .slice A1 (digs (qt x)).length c1, .slice D1 (digs (qd x)).length d1, .bool s2, .slice A2 n2 c2, .slice D2 m2 d2] 26)).alloc (.cells #[.bool false, .slice none 0 0, .slice none 0 0, .bool false, .slice none 0 0, .slice none 0 0] 26)).heap.size = w.heap.size + 1 + 1 := by simp
  have z3 : (((w.alloc (.cells #[.bool (qn x), .slice A1 (digs (qt x)).length c1, .slice D1 (digs (qd x)).length d1, .bool s2, .slice A2 n2 c2, .slice D2 m2 d2] 26)).alloc (.cells #[.bool false, .slice none 0 0, .slice none 0 0, .bool false, .slice none 0 0, .slice none 0 0] 26)).alloc (.cells #[.int .u32 (1 : Int)] 46)).heap.size = w.heap.size + 1 + 1 + 1 := by simp
  have z4 : ((((w.alloc (.cells #[.bool (qn x), .slice A1 (digs (qt x)).length c1, .slice D1 (digs (qd x)).length d1, .bool s2, .slice A2 n2 c2, .slice D2 m2 d2] 26)).alloc (.cells #[.bool false, .slice none 0 0, .slice none 0 0, .bool false, .slice none 0 0, .slice none 0 0] 26)).alloc (.cells #[.int .u32 (1 : Int)] 46)).alloc (.cells #[.int .u32 (1 : Int)] 46)).heap.size = w.heap.size + 1 + 1 + 1 + 1 := by simp
  have s1 := SB.new ((w.alloc (.cells #[.bool (qn x), .slice A1 (digs (qt x)).length c1, .slice D1 (digs (qd x)).length d1, .bool s2, .slice A2 n2 c2, .slice D2 m2 d2] 26)).alloc (.cells #[.bool false, .slice none 0 0, .slice none 0 0, .bool false, .slice none 0 0, .slice none 0 0] 26)) [.int .u32 (1 : Int)] 46
  have s2_ := SB.new (((w.alloc (.cells #[.bool (qn x), .slice A1 (digs (qt x)).length c1, .slice D1 (digs (qd x)).length d1, .bool s2, .slice A2 n2 c2, .slice D2 m2 d2] 26)).alloc (.cells #[.bool false, .slice none 0 0, .slice none 0 0, .bool false, .slice none 0 0, .slice none 0 0] 26)).alloc (.cells #[.int .u32 (1 : Int)] 46)) [.int .u32 (1 : Int)] 46
  have s4 := SB.new ((((w.alloc (.cells #[.bool (qn x), .slice A1 (digs (qt x)).length c1, .slice D1 (digs (qd x)).length d1, .bool s2, .slice A2 n2 c2, .slice D2 m2 d2] 26)).alloc (.cells #[.bool false, .slice none 0 0, .slice none 0 0, .bool false, .slice none 0 0, .slice none 0 0] 26)).alloc (.cells #[.int .u32 (1 : Int)] 46)).alloc (.cells #[.int .u32 (1 : Int)] 46)) [.bool false, .slice (some ⟨w.heap.size + 1 + 1, 0, none⟩) 1 1, .slice (some ⟨w.heap.size + 1 + 1 + 1, 0, none⟩) 1 1] 24
  have l1 := bal ((w.alloc (.cells #[.bool (qn x), .slice A1 (digs (qt x)).length c1, .slice D1 (digs (qd x)).length d1, .bool s2, .slice A2 n2 c2, .slice D2 m2 d2] 26)).alloc (.cells #[.bool false, .slice none 0 0, .slice none 0 0, .bool false, .slice none 0 0, .slice none 0 0] 26)) (.cells #[.int .u32 (1 : Int)] 46)
  have l2 := bal (((w.alloc (.cells #[.bool (qn x), .slice A1 (digs (qt x)).length c1, .slice D1 (digs (qd x)).length d1, .bool s2, .slice A2 n2 c2, .slice D2 m2 d2] 26)).alloc (.cells #[.bool false, .slice none 0 0, .slice none 0 0, .bool false, .slice none 0 0, .slice none 0 0] 26)).alloc (.cells #[.int .u32 (1 : Int)] 46)) (.cells #[.int .u32 (1 : Int)] 46)
  have l3 := bal ((((w.alloc (.cells #[.bool (qn x), .slice A1 (digs (qt x)).length c1, .slice D1 (digs (qd x)).length d1, .bool s2, .slice A2 n2 c2, .slice D2 m2 d2] 26)).alloc (.cells #[.bool false, .slice none 0 0, .slice none 0 0, .bool false, .slice none 0 0, .slice none 0 0] 26)).alloc (.cells #[.int .u32 (1 : Int)] 46)).alloc (.cells #[.int .u32 (1 : Int)] 46)) (.cells #[.bool false, .slice (some ⟨w.heap.size + 1 + 1, 0, none⟩) 1 1, .slice (some ⟨w.heap.size + 1 + 1 + 1, 0, none⟩) 1 1] 24)
  have kz := ((k0.nx l1).nx l2).nx l3
  have s1 := (s1.nx l2).nx l3
  have s2_ := s2_.nx l3
  rw [z2] at s1
  rw [z3] at s2_
  rw [z4] at s4
  have eO : ([.bool false, .slice (some ⟨w.heap.size + 1 + 1, 0, none⟩) 1 1, .slice (some ⟨w.heap.size + 1 + 1 + 1, 0, none⟩) 1 1] : List Value) = [.bool (qn 1), .slice (some ⟨w.heap.size + 1 + 1, 0, none⟩) (digs (qt 1)).length 1, .slice (some ⟨w.heap.size + 1 + 1 + 1, 0, none⟩) (digs (qd 1)).length 1] := by rw [qn_one, qt_one, qd_one, digs_one1]; rfl
  obtain ⟨W, hW⟩ : ∃ W, W = ((((w.alloc (.cells #[.bool (qn x), .slice A1 (digs (qt x)).length c1, .slice D1 (digs (qd x)).length d1, .bool s2, .slice A2 n2 c2, .slice D2 m2 d2] 26)).alloc (.cells #[.bool false, .slice none 0 0, .slice none 0 0, .bool false, .slice none 0 0, .slice none 0 0] 26)).alloc (.cells #[.int .u32 (1 : Int)] 46)).alloc (.cells #[.int .u32 (1 : Int)] 46)).alloc (.cells #[.bool false, .slice (some ⟨w.heap.size + 1 + 1, 0, none⟩) 1 1, .slice (some ⟨w.heap.size + 1 + 1 + 1, 0, none⟩) 1 1] 24) := ⟨_, rfl⟩
  rw [← hW] at kz s1 s2_ s4
  rw [eO] at s4
  have k0 : SL w (w.heap.size + 1) 6 [(w.heap.size, [.bool (qn x), .slice A1 (digs (qt x)).length c1, .slice D1 (digs (qd x)).length d1, .bool s2, .slice A2 n2 c2, .slice D2 m2 d2]), (w.heap.size + 1 + 1 + 1 + 1, [.bool (qn 1), .slice (some ⟨w.heap.size + 1 + 1, 0, none⟩) (digs (qt 1)).length 1, .slice (some ⟨w.heap.size + 1 + 1 + 1, 0, none⟩) (digs (qd 1)).length 1]), (w.heap.size + 1 + 1, [.int .u32 (1 : Int)]), (w.heap.size + 1 + 1 + 1, [.int .u32 (1 : Int)])] W := ((((SL.start kz.2.1 (by omega) kz.2.2).cons s2_ (by omega)).cons s1 (by omega)).cons s4 (by omega)).cons kz.1 (by omega)
  have u1 : ∀ {w' : World}, SB w' (w.heap.size + 1 + 1) [.int .u32 (1 : Int)] → RW w' w'.heap.size (some ⟨w.heap.size + 1 + 1, 0, none⟩) 1 (digs (qt 1)) := fun h => by rw [qt_one, digs_one1]; exact SB.one (x := 1) h (by omega)
  have u2 : ∀ {w' : World}, SB w' (w.heap.size + 1 + 1 + 1) [.int .u32 (1 : Int)] → RW w' w'.heap.size (some ⟨w.heap.size + 1 + 1 + 1, 0, none⟩) 1 (digs (qd 1)) := fun h => by rw [qd_one, digs_one1]; exact SB.one (x := 1) h (by omega)
  clear l1 l2 l3 z2 z3 z4 s1 s2_ s4 eO kz
  go_enter Try.func40, Try.ntmps40
  go_upto_region 2 with fail
  rw [← hW]
  clear hW
  generalize hg4 : w.heap.size + 1 + 1 + 1 + 1 = g4 at *
  generalize hg3 : w.heap.size + 1 + 1 + 1 = g3 at *
  generalize hg2 : w.heap.size + 1 + 1 = g2 at *
  clear hg4 hg3 hg2
  have k0d := k0.dr
  have k0s := And.intro (k0d.a0.cell 0) (And.intro (k0d.a0.cell 1) (And.intro (k0d.a0.cell 2) (And.intro (k0d.a0.cell 3) (And.intro (k0d.a0.cell 4) (And.intro (k0d.a0.cell 5) (And.intro (k0d.a1.cell 0) (And.intro (k0d.a1.cell 1) (And.intro (k0d.a1.cell 2) (And.intro (k0d.rc.cell 0) (And.intro (k0d.rc.frozen 0) (And.intro (k0d.rc.cell 1) (And.intro (k0d.rc.frozen 1) (And.intro (k0d.rc.cell 2) (And.intro (k0d.rc.frozen 2) (And.intro (k0d.rc.cell 3) (And.intro (k0d.rc.frozen 3) (And.intro (k0d.rc.cell 4) (And.intro (k0d.rc.frozen 4) (And.intro (k0d.rc.cell 5) (And.intro (k0d.rc.frozen 5) (k0d)))))))))))))))))))))
  go_region_held3 (fun w' => w'.cell? ⟨w.heap.size, 0, none⟩ = some (.bool (qn x)) ∧ w'.cell? ⟨w.heap.size, 1, none⟩ = some (.slice A1 (digs (qt x)).length c1) ∧ w'.cell? ⟨w.heap.size, 2, none⟩ = some (.slice D1 (digs (qd x)).length d1) ∧ w'.cell? ⟨w.heap.size, 3, none⟩ = some (.bool s2) ∧ w'.cell? ⟨w.heap.size, 4, none⟩ = some (.slice A2 n2 c2) ∧ w'.cell? ⟨w.heap.size, 5, none⟩ = some (.slice D2 m2 d2) ∧ w'.cell? ⟨g4, 0, none⟩ = some (.bool (qn 1)) ∧ w'.cell? ⟨g4, 1, none⟩ = some (.slice (some ⟨g2, 0, none⟩) (digs (qt 1)).length 1) ∧ w'.cell? ⟨g4, 2, none⟩ = some (.slice (some ⟨g3, 0, none⟩) (digs (qd 1)).length 1) ∧ w'.cell? ⟨w.heap.size + 1, 0, none⟩ = some (cv w' (w.heap.size + 1) 0) ∧ w'.frozen? ⟨w.heap.size + 1, 0, none⟩ = false ∧ w'.cell? ⟨w.heap.size + 1, 1, none⟩ = some (cv w' (w.heap.size + 1) 1) ∧ w'.frozen? ⟨w.heap.size + 1, 1, none⟩ = false ∧ w'.cell? ⟨w.heap.size + 1, 2, none⟩ = some (cv w' (w.heap.size + 1) 2) ∧ w'.frozen? ⟨w.heap.size + 1, 2, none⟩ = false ∧ w'.cell? ⟨w.heap.size + 1, 3, none⟩ = some (cv w' (w.heap.size + 1) 3) ∧ w'.frozen? ⟨w.heap.size + 1, 3, none⟩ = false ∧ w'.cell? ⟨w.heap.size + 1, 4, none⟩ = some (cv w' (w.heap.size + 1) 4) ∧ w'.frozen? ⟨w.heap.size + 1, 4, none⟩ = false ∧ w'.cell? ⟨w.heap.size + 1, 5, none⟩ = some (cv w' (w.heap.size + 1) 5) ∧ w'.frozen? ⟨w.heap.size + 1, 5, none⟩ = false ∧ SL w (w.heap.size + 1) 6 [(w.heap.size, [.bool (qn x), .slice A1 (digs (qt x)).length c1, .slice D1 (digs (qd x)).length d1, .bool s2, .slice A2 n2 c2, .slice D2 m2 d2]), (g4, [.bool (qn 1), .slice (some ⟨g2, 0, none⟩) (digs (qt 1)).length 1, .slice (some ⟨g3, 0, none⟩) (digs (qd 1)).length 1]), (g2, [.int .u32 (1 : Int)]), (g3, [.int .u32 (1 : Int)])] w')
    (first
      | with_reducible exact k0s
      | (have s1 := (by with_reducible assumption : _ ∧ _ ∧ _ ∧ _ ∧ _ ∧ _ ∧ _ ∧ _ ∧ _ ∧ _ ∧ _ ∧ _ ∧ _ ∧ _ ∧ _ ∧ _ ∧ _ ∧ _ ∧ _ ∧ _ ∧ _ ∧ SL w (w.heap.size + 1) 6 [(w.heap.size, [.bool (qn x), .slice A1 (digs (qt x)).length c1, .slice D1 (digs (qd x)).length d1, .bool s2, .slice A2 n2 c2, .slice D2 m2 d2]), (g4, [.bool (qn 1), .slice (some ⟨g2, 0, none⟩) (digs (qt 1)).length 1, .slice (some ⟨g3, 0, none⟩) (digs (qd 1)).length 1]), (g2, [.int .u32 (1 : Int)]), (g3, [.int .u32 (1 : Int)])] _).2.2.2.2.2.2.2.2.2.2.2.2.2.2.2.2.2.2.2.2.2.nx BX; have q0_ := s1.a0.cell 0; have q1_ := s1.a0.cell 1; have q2_ := s1.a0.cell 2; have q3_ := s1.a0.cell 3; have q4_ := s1.a0.cell 4; have q5_ := s1.a0.cell 5; have q6_ := s1.a1.cell 0; have q7_ := s1.a1.cell 1; have q8_ := s1.a1.cell 2; have q9_ := s1.rc.cell 0; have q10_ := s1.rc.frozen 0; have q11_ := s1.rc.cell 1; have q12_ := s1.rc.frozen 1; have q13_ := s1.rc.cell 2; have q14_ := s1.rc.frozen 2; have q15_ := s1.rc.cell 3; have q16_ := s1.rc.frozen 3; have q17_ := s1.rc.cell 4; have q18_ := s1.rc.frozen 4; have q19_ := s1.rc.cell 5; have q20_ := s1.rc.frozen 5; with_reducible exact ⟨q0_, q1_, q2_, q3_, q4_, q5_, q6_, q7_, q8_, q9_, q10_, q11_, q12_, q13_, q14_, q15_, q16_, q17_, q18_, q19_, q20_, s1⟩)
      | (have s1 := (by with_reducible assumption : _ ∧ _ ∧ _ ∧ _ ∧ _ ∧ _ ∧ _ ∧ _ ∧ _ ∧ _ ∧ _ ∧ _ ∧ _ ∧ _ ∧ _ ∧ _ ∧ _ ∧ _ ∧ _ ∧ _ ∧ _ ∧ SL w (w.heap.size + 1) 6 [(w.heap.size, [.bool (qn x), .slice A1 (digs (qt x)).length c1, .slice D1 (digs (qd x)).length d1, .bool s2, .slice A2 n2 c2, .slice D2 m2 d2]), (g4, [.bool (qn 1), .slice (some ⟨g2, 0, none⟩) (digs (qt 1)).length 1, .slice (some ⟨g3, 0, none⟩) (digs (qd 1)).length 1]), (g2, [.int .u32 (1 : Int)]), (g3, [.int .u32 (1 : Int)])] _).2.2.2.2.2.2.2.2.2.2.2.2.2.2.2.2.2.2.2.2.2.put6 (.bool (qn (-x + -1))) (.slice A8 (digs (qt (-x + -1))).length c8) (.slice D8 (digs (qd (-x + -1))).length d8) (.bool s2) (.slice A2 n2 c2) (.slice D2 m2 d2); have q0_ := s1.a0.cell 0; have q1_ := s1.a0.cell 1; have q2_ := s1.a0.cell 2; have q3_ := s1.a0.cell 3; have q4_ := s1.a0.cell 4; have q5_ := s1.a0.cell 5; have q6_ := s1.a1.cell 0; have q7_ := s1.a1.cell 1; have q8_ := s1.a1.cell 2; have q9_ := s1.rc.cell 0; have q10_ := s1.rc.frozen 0; have q11_ := s1.rc.cell 1; have q12_ := s1.rc.frozen 1; have q13_ := s1.rc.cell 2; have q14_ := s1.rc.frozen 2; have q15_ := s1.rc.cell 3; have q16_ := s1.rc.frozen 3; have q17_ := s1.rc.cell 4; have q18_ := s1.rc.frozen 4; have q19_ := s1.rc.cell 5; have q20_ := s1.rc.frozen 5; with_reducible exact ⟨q0_, q1_, q2_, q3_, q4_, q5_, q6_, q7_, q8_, q9_, q10_, q11_, q12_, q13_, q14_, q15_, q16_, q17_, q18_, q19_, q20_, s1⟩))
    (first
      | (go_at_call_of 73 (Value.agg #[.bool (qn x), .slice A1 (digs (qt x)).length c1, .slice D1 (digs (qd x)).length d1]); have hh := (by with_reducible assumption : _ ∧ _ ∧ _ ∧ _ ∧ _ ∧ _ ∧ _ ∧ _ ∧ _ ∧ _ ∧ _ ∧ _ ∧ _ ∧ _ ∧ _ ∧ _ ∧ _ ∧ _ ∧ _ ∧ _ ∧ _ ∧ SL w (w.heap.size + 1) 6 [(w.heap.size, [.bool (qn x), .slice A1 (digs (qt x)).length c1, .slice D1 (digs (qd x)).length d1, .bool s2, .slice A2 n2 c2, .slice D2 m2 d2]), (g4, [.bool (qn 1), .slice (some ⟨g2, 0, none⟩) (digs (qt 1)).length 1, .slice (some ⟨g3, 0, none⟩) (digs (qd 1)).length 1]), (g2, [.int .u32 (1 : Int)]), (g3, [.int .u32 (1 : Int)])] _).2.2.2.2.2.2.2.2.2.2.2.2.2.2.2.2.2.2.2.2.2; refine (rminus_any x A1 D1 c1 d1 _).mono ?_; rintro e w16 ⟨rfl, BX⟩; have B16 := BX)
      | (go_at_call_of 73 (Value.agg #[.bool (qn 1), .slice (some ⟨g2, 0, none⟩) (digs (qt 1)).length 1, .slice (some ⟨g3, 0, none⟩) (digs (qd 1)).length 1]); have hh := (by with_reducible assumption : _ ∧ _ ∧ _ ∧ _ ∧ _ ∧ _ ∧ _ ∧ _ ∧ _ ∧ _ ∧ _ ∧ _ ∧ _ ∧ _ ∧ _ ∧ _ ∧ _ ∧ _ ∧ _ ∧ _ ∧ _ ∧ SL w (w.heap.size + 1) 6 [(w.heap.size, [.bool (qn x), .slice A1 (digs (qt x)).length c1, .slice D1 (digs (qd x)).length d1, .bool s2, .slice A2 n2 c2, .slice D2 m2 d2]), (g4, [.bool (qn 1), .slice (some ⟨g2, 0, none⟩) (digs (qt 1)).length 1, .slice (some ⟨g3, 0, none⟩) (digs (qd 1)).length 1]), (g2, [.int .u32 (1 : Int)]), (g3, [.int .u32 (1 : Int)])] _).2.2.2.2.2.2.2.2.2.2.2.2.2.2.2.2.2.2.2.2.2; refine (rminus_any 1 (some ⟨g2, 0, none⟩) (some ⟨g3, 0, none⟩) 1 1 _).mono ?_; rintro e w17 ⟨rfl, BX⟩; have B17 := BX)
      | (go_at_call 72; have hh := (by with_reducible assumption : _ ∧ _ ∧ _ ∧ _ ∧ _ ∧ _ ∧ _ ∧ _ ∧ _ ∧ _ ∧ _ ∧ _ ∧ _ ∧ _ ∧ _ ∧ _ ∧ _ ∧ _ ∧ _ ∧ _ ∧ _ ∧ SL w (w.heap.size + 1) 6 [(w.heap.size, [.bool (qn x), .slice A1 (digs (qt x)).length c1, .slice D1 (digs (qd x)).length d1, .bool s2, .slice A2 n2 c2, .slice D2 m2 d2]), (g4, [.bool (qn 1), .slice (some ⟨g2, 0, none⟩) (digs (qt 1)).length 1, .slice (some ⟨g3, 0, none⟩) (digs (qd 1)).length 1]), (g2, [.int .u32 (1 : Int)]), (g3, [.int .u32 (1 : Int)])] _).2.2.2.2.2.2.2.2.2.2.2.2.2.2.2.2.2.2.2.2.2; refine (rsum_any _ _ (-x) (-1) _ (rqm (st r1 hh.bl) (st r2 hh.bl)) (rqm (u1 hh.a2) (u2 hh.a3)) hb).mono ?_; rintro e w18 ⟨A8, c8, D8, d8, rfl, O8, P8, BX⟩; have B18 := BX; have kk := hh.nx BX; have sz := hh.rc.2))
  have s6 := kk.rc.put6 (.bool (qn (-x + -1))) (.slice A8 (digs (qt (-x + -1))).length c8) (.slice D8 (digs (qd (-x + -1))).length d8) (.bool s2) (.slice A2 n2 c2) (.slice D2 m2 d2)
  have B6 := wr6_below (b := w.heap.size + 1) kk.bl (by omega) (.bool (qn (-x + -1))) (.slice A8 (digs (qt (-x + -1))).length c8) (.slice D8 (digs (qd (-x + -1))).length d8) (.bool s2) (.slice A2 n2 c2) (.slice D2 m2 d2)
  have hz := B17.size
  have Oa := O8.put6 (b := w.heap.size + 1) sz (.bool (qn (-x + -1))) (.slice A8 (digs (qt (-x + -1))).length c8) (.slice D8 (digs (qd (-x + -1))).length d8) (.bool s2) (.slice A2 n2 c2) (.slice D2 m2 d2)
  have Ob := P8.put6 (b := w.heap.size + 1) sz (.bool (qn (-x + -1))) (.slice A8 (digs (qt (-x + -1))).length c8) (.slice D8 (digs (qd (-x + -1))).length d8) (.bool s2) (.slice A2 n2 c2) (.slice D2 m2 d2)
  have r0' := s6.cell 0
  have r1' := s6.cell 1
  have r2' := s6.cell 2
  have r3' := s6.cell 3
  have r4' := s6.cell 4
  have r5' := s6.cell 5
  unfold wr6 wr3 at s6 B6 Oa Ob r0' r1' r2' r3' r4' r5'
  go_wp2_with fail
  refine bodyPost_ret (v := .agg #[.bool (qn (-x + -1)), .slice A8 (digs (qt (-x + -1))).length c8, .slice D8 (digs (qd (-x + -1))).length d8, .bool s2, .slice A2 n2 c2, .slice D2 m2 d2]) (by simp [results, r0', r1', r2', r3', r4', r5', go_sem]) rfl ?_
  exact ⟨A8, c8, D8, d8, rfl, Oa.base_le (by omega), Ob.base_le (by omega), B6⟩

end Go.Proofs.Ytnlgoedklmjhlaa
