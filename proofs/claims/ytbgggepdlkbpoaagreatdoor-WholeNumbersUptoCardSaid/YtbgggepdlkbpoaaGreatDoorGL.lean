/- Merged texts: BiA, BiC, RatW, ExS, ExJ, ExK, ExW, ExP, BiD, BiB. -/
import Derived.Test.YtbgggepdlkbpoaaGreatDoorGB
import Derived.Test.YtbgggepdlkbpoaaGreatDoorGE
import Derived.Test.YtbgggepdlkbpoaaGreatDoorGK
import Derived.Deep.LoopGhost
import Derived.Test.YtbgggepdlkbpoaaGreatDoorGG
import Derived.Test.YtbgggepdlkbpoaaGreatDoorGI
import Derived.Test.YtbgggepdlkbpoaaGreatDoorGF
import Derived.Test.YtbgggepdlkbpoaaGreatDoorGH
import Derived.Laws.CopyOwn
namespace Go.Proofs.YtbgggepdlkbpoaaGreatDoor
open Go.RowKit

theorem xor_all {x : Nat} (hx : x < 4294967296) : 4294967295 ^^^ x = 4294967295 - x := by
  refine Nat.eq_of_testBit_eq fun k => ?_
  have h1 := Nat.testBit_two_pow_sub_succ (n := 32) hx k
  have h2 := Nat.testBit_two_pow_sub_one 32 k
  rw [Nat.testBit_xor, show (4294967295 : Nat) = 2 ^ 32 - 1 by decide, h2, show 2 ^ 32 - 1 - x = 2 ^ 32 - (x + 1) by omega, h1]
  by_cases hk : k < 32
  · rw [decide_eq_true hk]
    simp
  · rw [decide_eq_false hk, Nat.testBit_lt_two_pow (Nat.lt_of_lt_of_le hx (show 2 ^ 32 ≤ 2 ^ k from Nat.pow_le_pow_right (by omega) (by omega)))]
    rfl
theorem not_word {x : Nat} (hx : x < 4294967296) : bits BinOp.xor IntKind.u32 IntKind.u32.max (x : Int) = ((4294967295 - x : Nat) : Int) := by
  rw [← xor_all hx]
  exact u32_xor_nat 4294967295 x (by omega) hx
/-- a store into a block: all others stay -/
theorem grown_set {w w' : World} {g : Nat} (h : w.grownBy w' (some g)) (k : Nat) (u : Value) : w.grownBy (w'.setCell ⟨g, k, none⟩ u) (some g) :=
  h.trans ⟨rfl, rfl, rfl, by simp [World.setCell], fun i _ hi => Below.heap_setCell _ _ _ _ (fun e => hi (by rw [e]))⟩
theorem grown_drN {w w' : World} {r : Option Nat} (h : w.grownBy w' r) (n : Nat) : w.grownBy (w'.drewN n) r := ⟨h.os, h.tape, h.output, h.size, h.block⟩
theorem SB.grown {w w' : World} {g b : Nat} {vs : List Value} (h : SB w b vs) (hg : w.grownBy w' (some g)) (hb : b ≠ g) : SB w' b vs :=
  ⟨fun i v hv => ⟨(World.cell?_of_block (a := ⟨b, i, none⟩) (hg.block b h.2 (fun e => hb (Option.some.inj e)))).trans (h.1 i v hv).1, (World.frozen?_of_block (a := ⟨b, i, none⟩) (hg.block b h.2 (fun e => hb (Option.some.inj e)))).trans (h.1 i v hv).2⟩, Nat.lt_of_lt_of_le h.2 hg.size⟩
theorem turn_any (g c : Nat) (l : List Nat) (w : World) (base : Nat) (h : OW w base (some ⟨g, 0, none⟩) c l) :
    Calls Tryz.prog 52 #[.slice (some ⟨g, 0, none⟩) l.length c] w fun e w' => e = .returned (.tuple #[]) ∧ OW w' base (some ⟨g, 0, none⟩) c (wordsN l.length ((Wp l.length - val l) % Wp l.length)) ∧ Below base w w' ∧ w.grownBy w' (some g) := by
  have hbig := h.big
  have hb := h.b32
  have hg := h.lt.1
  go_enter Tryz.func52, Tryz.ntmps52
  go_wp2_with fail
  go_loopg [2, 7] l.length (fun gg cv iv wr => ∃ (k cc : Nat) (o : List Nat), k ≤ l.length ∧ l.length - k = gg ∧ iv = .int .i64 (k : Int) ∧ cv = .int .u32 (cc : Int) ∧ cc ≤ 1 ∧ OW wr base (some ⟨g, 0, none⟩) c o ∧ Hid (o.length = l.length ∧ (∀ j, k ≤ j → wd o j = wd l j) ∧ val (o.take k) + cc * Wp k + val (l.take k) = Wp k) ∧ Below base w wr ∧ w.grownBy wr (some g))
  case atStart => exact ⟨0, 1, l, Nat.zero_le _, rfl, rfl, rfl, by omega, h, Lib.hid ⟨rfl, fun _ _ => rfl, by simp [Wp_zero, val]⟩, Below.refl _ _, World.grownBy.refl _ _⟩
  case round =>
    obtain ⟨k, cc, o, hk, rfl, rfl, rfl, hcc, hO, hI, hbel, hgr⟩ := hrel
    by_cases hk0 : k < l.length
    · obtain ⟨hol, hrest, hsum⟩ := hI.out
      have hck := hO.cell (k := k) (by omega)
      rw [hrest k (Nat.le_refl _)] at hck
      have hfk := hO.frozen k
      have hx := wd_lt hb k
      have hst := turn_step hk0 hol hb hcc hsum
      have ha := add32_any (4294967295 - wd l k) 0 cc
      have hset := hO.set k (addf_lt (4294967295 - wd l k) 0 cc)
      have hnew : ∀ j, k + 1 ≤ j → wd (o.set k (addf (4294967295 - wd l k) 0 cc)) j = wd l j := fun j hj => by
        rw [wd_set_ne (by omega)]
        exact hrest j (by omega)
      have hbel2 := hbel.setCell (p := ⟨g, k, none⟩) hg (.int .u32 (addf (4294967295 - wd l k) 0 cc : Nat))
      have hgr2 := grown_set hgr k (.int .u32 (addf (4294967295 - wd l k) 0 cc : Nat))
      have HI := Lib.hid (And.intro (show (o.set k (addf (4294967295 - wd l k) 0 cc)).length = l.length by rw [List.length_set]; exact hol) (And.intro hnew hst.1))
      have HC := Lib.hid hst.2
      rw [← not_word hx] at ha
      clear hol hrest hsum hst hnew hI
      go_wp2_with fail
      refine (ha _ (by omega) (by omega) hcc).mono ?_; rintro e w' ⟨rfl, rfl⟩
      clear ha
      go_wp2_with fail
      go_roundg (l.length - (k + 1))
      case measure => omega
      case rel => exact ⟨k + 1, _, _, by omega, rfl, by go_num, rfl, HC.out, hset, HI, hbel2, hgr2⟩
    · obtain rfl : k = l.length := by omega
      have hfin := turn_all hI.out.1 hI.out.2.2 hcc hO.b32
      have HF := Lib.hid hfin
      clear hfin hI hk0
      go_wp2_with fail
      go_end0
      exact ⟨rfl, by rw [← HF.out]; exact hO, hbel, hgr⟩
end Go.Proofs.YtbgggepdlkbpoaaGreatDoor
namespace Go.Proofs.YtbgggepdlkbpoaaGreatDoor
open Go.RowKit

theorem or1_any (x y : Nat) (w : World) (hx : x < 4294967296) (hy : y < 4294967296) : Calls Tryz.prog 31 #[.int .u32 (x : Int), .int .u32 (y : Int)] w fun e w' => e = .returned (.int .u32 ((x ||| y : Nat) : Int)) ∧ w = w' := by
  have h := u32_or_nat x y hx hy
  go_enter Tryz.func31, Tryz.ntmps31
  go_wp2_with fail
  go_ret
  exact ⟨by rw [← h]; rfl, rfl⟩
theorem not1_any (x y : Nat) (w : World) (hx : x < 4294967296) : Calls Tryz.prog 42 #[.int .u32 (x : Int), .int .u32 (y : Int)] w fun e w' => e = .returned (.int .u32 ((4294967295 - x : Nat) : Int)) ∧ w = w' := by
  go_enter Tryz.func42, Tryz.ntmps42
  go_wp2_with fail
  go_ret
  exact ⟨by rw [← not_word hx]; rfl, rfl⟩
end Go.Proofs.YtbgggepdlkbpoaaGreatDoor
namespace Go.Proofs.YtbgggepdlkbpoaaGreatDoor
open Go.RowKit

/-- a whole number -/
def wB (r i : Rw) : Bool := nB r i && (decide (i.a.length = 0) && decide (r.b = [1]))


set_option maxHeartbeats 2000000 in
theorem whole1_any (v : Value) (r i : Rw) (w : World) (h : VN w w.heap.size v r i) :
    Calls Tryz.prog 41 #[v] w fun e w' => e = .returned (.bool (wB r i)) ∧ Below w.heap.size w w' := by
  obtain ⟨s1, a1, b1⟩ := r
  obtain ⟨s2, a2, b2⟩ := i
  obtain ⟨A1, c1, D1, d1, A2, c2, D2, d2, rfl, r1, r2, r3, r4⟩ := h
  dsimp only at r1 r2 r3 r4 ⊢
  have B1 := bal w (.cells #[.bool s1, .slice A1 a1.length c1, .slice D1 b1.length d1, .bool s2, .slice A2 a2.length c2, .slice D2 b2.length d2] 26)
  have S1 := SB.new w [.bool s1, .slice A1 a1.length c1, .slice D1 b1.length d1, .bool s2, .slice A2 a2.length c2, .slice D2 b2.length d2] 26
  have m0 := S1.cell 0
  have m1 := S1.cell 1
  have m2 := S1.cell 2
  have m3 := S1.cell 3
  have m4 := S1.cell 4
  have m5 := S1.cell 5
  have h0 := esound_any (.agg #[.bool s1, .slice A1 a1.length c1, .slice D1 b1.length d1, .bool s2, .slice A2 a2.length c2, .slice D2 b2.length d2]) ⟨s1, a1, b1⟩ ⟨s2, a2, b2⟩ _ (vns r1 r2 r3 r4 B1)
  show Calls _ _ _ _ fun e w' => e = .returned (.bool (nB ⟨s1, a1, b1⟩ ⟨s2, a2, b2⟩ && (decide (a2.length = 0) && decide (b1 = [1])))) ∧ _
  cases hx : nB ⟨s1, a1, b1⟩ ⟨s2, a2, b2⟩ with
  | false =>
    rw [hx] at h0
    clear hx
    go_enter Tryz.func41, Tryz.ntmps41
    go_wp2_with fail
    refine h0.mono ?_; rintro e w3 ⟨rfl, B3⟩
    go_wp2_with fail
    go_ret
    exact ⟨rfl, bt B1 B3⟩
  | true =>
    rw [hx] at h0
    clear hx
    by_cases ha : a2.length = 0
    · have t1 : ((a2.length : Int) == 0) = true := by rw [ha]; rfl
      rw [decide_eq_true (p := a2.length = 0) ha]
      clear ha
      by_cases hb : b1.length = 1
      · obtain ⟨x, rfl⟩ := List.length_eq_one_iff.1 hb
        clear hb
        by_cases hx1 : x = 1
        · subst hx1
          rw [decide_eq_true (p := [1] = [1]) rfl]
          go_enter Tryz.func41, Tryz.ntmps41
          go_wp2_with fail
          refine h0.mono ?_; rintro e w3 ⟨rfl, B3⟩
          have S3 := S1.nx B3
          have n0 := S3.cell 0
          have n1 := S3.cell 1
          have n2 := S3.cell 2
          have n3 := S3.cell 3
          have n4 := S3.cell 4
          have n5 := S3.cell 5
          obtain ⟨g3, o3, rfl, _, hq⟩ := (st r2 (bt B1 B3)).at_ (by simp)
          have x0 := hq 0 (by simp)
          rw [show wd [1] 0 = 1 from rfl, Nat.add_zero] at x0
          go_wp2_with fail
          go_ret
          exact ⟨rfl, bt B1 B3⟩
        · rw [decide_eq_false (p := [x] = [1]) (fun e => hx1 (List.cons.inj e).1)]
          have t3 : ((x : Int) == 1) = false := beq_eq_false_iff_ne.2 (by omega)
          go_enter Tryz.func41, Tryz.ntmps41
          go_wp2_with fail
          refine h0.mono ?_; rintro e w3 ⟨rfl, B3⟩
          have S3 := S1.nx B3
          have n0 := S3.cell 0
          have n1 := S3.cell 1
          have n2 := S3.cell 2
          have n3 := S3.cell 3
          have n4 := S3.cell 4
          have n5 := S3.cell 5
          obtain ⟨g3, o3, rfl, _, hq⟩ := (st r2 (bt B1 B3)).at_ (by simp)
          have x0 := hq 0 (by simp)
          rw [show wd [x] 0 = x from rfl, Nat.add_zero] at x0
          go_wp2_with fail
          go_ret
          exact ⟨rfl, bt B1 B3⟩
      · have t2 : ((b1.length : Int) == 1) = false := beq_eq_false_iff_ne.2 (by omega)
        rw [decide_eq_false (p := b1 = [1]) (fun e => hb (by rw [e]; rfl))]
        clear hb
        go_enter Tryz.func41, Tryz.ntmps41
        go_wp2_with fail
        refine h0.mono ?_; rintro e w3 ⟨rfl, B3⟩
        have S3 := S1.nx B3
        have n0 := S3.cell 0
        have n1 := S3.cell 1
        have n2 := S3.cell 2
        have n3 := S3.cell 3
        have n4 := S3.cell 4
        have n5 := S3.cell 5
        go_wp2_with fail
        go_ret
        exact ⟨rfl, bt B1 B3⟩
    · have t1 : ((a2.length : Int) == 0) = false := beq_eq_false_iff_ne.2 (by omega)
      rw [decide_eq_false (p := a2.length = 0) ha]
      clear ha
      go_enter Tryz.func41, Tryz.ntmps41
      go_wp2_with fail
      refine h0.mono ?_; rintro e w3 ⟨rfl, B3⟩
      have S3 := S1.nx B3
      have n0 := S3.cell 0
      have n1 := S3.cell 1
      have n2 := S3.cell 2
      have n3 := S3.cell 3
      have n4 := S3.cell 4
      have n5 := S3.cell 5
      go_wp2_with fail
      go_ret
      exact ⟨rfl, bt B1 B3⟩

/-- a whole number is an integer -/
theorem wB_int {r i : Rw} (h : wB r i = true) : r.a = digs (val r.a) ∧ r.b = [1] ∧ i = ⟨false, [], [1]⟩ ∧ (val r.a = 0 → r.s = false) ∧ r.a.length ≤ 512 := by
  unfold wB nB at h
  simp only [Bool.and_eq_true, decide_eq_true_eq] at h
  obtain ⟨⟨h1, h2⟩, h3, h4⟩ := h
  obtain ⟨p1, p2, p3, p4, p5⟩ := rsB_parts h1
  obtain ⟨q1, q2, q3, q4, q5⟩ := rsB_parts h2
  obtain ⟨l1, e1⟩ := soundB_parts p1
  have hi : i.a = [] := List.eq_nil_of_length_eq_zero h3
  refine ⟨e1.symm, h4, ?_, ?_, l1⟩
  · obtain ⟨is, ia, ib⟩ := i
    dsimp only at *
    subst hi
    rw [show val ([] : List Nat) = 0 from rfl, Nat.gcd_zero_left] at q5
    have e2 := (soundB_parts q2).2
    rw [q5, digs_one1] at e2
    rw [← e2, q4 rfl]
  · intro h0
    exact p4 (by rw [← e1, h0, digs_zero]; rfl)

end Go.Proofs.YtbgggepdlkbpoaaGreatDoor
namespace Go.Proofs.YtbgggepdlkbpoaaGreatDoor
open Go.RowKit

theorem RQ.parts {w : World} {B : Nat} {s : Bool} {A : Option Addr} {n c : Nat} {D : Option Addr} {m d : Nat} {q : Rat} (h : RQ w B (.agg #[.bool s, .slice A n c, .slice D m d]) q) : RW w B A c (digs (qt q)) ∧ RW w B D d (digs (qd q)) := by
  obtain ⟨A', c', D', d', e, h1, h2⟩ := h
  simp only [Value.agg.injEq, Array.mk.injEq, List.cons.injEq, Value.slice.injEq, and_true] at e
  obtain ⟨_, ⟨rfl, _, rfl⟩, rfl, _, rfl⟩ := e
  exact ⟨h1, h2⟩
theorem RQ.neg {w : World} {B : Nat} {s : Bool} {A : Option Addr} {n c : Nat} {D : Option Addr} {m d : Nat} {q : Rat} (h : RQ w B (.agg #[.bool s, .slice A n c, .slice D m d]) q) :
    RQ w B (.agg #[.bool (qn (-q)), .slice A (digs (qt (-q))).length c, .slice D (digs (qd (-q))).length d]) (-q) := by
  obtain ⟨h1, h2⟩ := h.parts
  exact ⟨A, c, D, d, rfl, by rw [q_neg_t]; exact h1, by rw [q_neg_d]; exact h2⟩
theorem S3.wr3 {w w1 : World} {b n g : Nat} {l1 l2 : List Value} (h : S3 w b l1 l2 n w1) (hg : b + 2 < g) (x y z : Value) : S3 w b l1 l2 n (Go.Proofs.YtbgggepdlkbpoaaGreatDoor.wr3 w1 g x y z) :=
  ⟨h.1.wr3 (by omega) x y z, h.2.1.wr3 (by omega) x y z, (h.2.2.1.sb.wr3 (by omega) x y z).rc (by simp), wr3_below h.2.2.2 (by omega) x y z⟩
/-- what the second region keeps: besides, the first fraction -/
def P3 (w wc : World) (b : Nat) (l1 l2 : List Value) (n g : Nat) (l3 : List Value) (w' : World) : Prop := S3 w b l1 l2 n w' ∧ SB w' g l3 ∧ Below wc.heap.size wc w'
section
variable {w wc w1 w2 : World} {b n g g2 : Nat} {l1 l2 l3 : List Value}
theorem P3.nx (h : P3 w wc b l1 l2 n g l3 w1) (hb : Below w1.heap.size w1 w2) : P3 w wc b l1 l2 n g l3 w2 := ⟨h.1.nx hb, h.2.1.nx hb, bt h.2.2 hb⟩
theorem P3.dr (h : P3 w wc b l1 l2 n g l3 w1) : P3 w wc b l1 l2 n g l3 w1.drew := h.nx (Below.drew (Below.refl _ _))
theorem P3.wr3 (h : P3 w wc b l1 l2 n g l3 w1) (hg : b + 2 < g2 ∧ g < g2 ∧ wc.heap.size ≤ g2) (x y z : Value) : P3 w wc b l1 l2 n g l3 (Go.Proofs.YtbgggepdlkbpoaaGreatDoor.wr3 w1 g2 x y z) :=
  ⟨h.1.wr3 hg.1 x y z, h.2.1.wr3 (by omega) x y z, wr3_below h.2.2 hg.2.2 x y z⟩
theorem sbre {o o' : Obj} {k : Nat} {vs : List Value} (hk : k < w1.heap.size) (h : SB (w1.alloc o) k vs) : SB (w1.alloc o') k vs :=
  ⟨fun i v hv => ⟨((((bal w1 o').cell (p := ⟨k, i, none⟩) hk).trans ((bal w1 o).cell (p := ⟨k, i, none⟩) hk).symm)).trans (h.1 i v hv).1, ((((bal w1 o').frozen (p := ⟨k, i, none⟩) hk).trans ((bal w1 o).frozen (p := ⟨k, i, none⟩) hk).symm)).trans (h.1 i v hv).2⟩, by simp; omega⟩
theorem P3.re {o o' : Obj} (h : P3 w wc b l1 l2 n g l3 (w1.alloc o)) (hg : b + 2 < w1.heap.size ∧ g < w1.heap.size ∧ wc.heap.size ≤ w1.heap.size) : P3 w wc b l1 l2 n g l3 (w1.alloc o') := by
  refine ⟨h.1.re hg.1, sbre hg.2.1 h.2.1, ?_⟩
  have h3 := h.2.2
  have e : ∀ (q : Obj) (k : Nat), k < w1.heap.size → (w1.alloc q).heap[k]? = w1.heap[k]? := fun q k hk => (bal w1 q).block k hk
  exact ⟨h3.os, h3.tape, h3.output, by have := h3.size; simpa using this, fun k hk => by
    rw [e o' k (by omega), ← e o k (by omega)]; exact h3.block k hk⟩
theorem gtp {l : List Value} (_ : SB w g2 l) (h : b + 2 < g2 ∧ g < g2 ∧ n ≤ g2) : b + 2 < g2 ∧ g < g2 ∧ n ≤ g2 := h
end


end Go.Proofs.YtbgggepdlkbpoaaGreatDoor
namespace Go.Proofs.YtbgggepdlkbpoaaGreatDoor
open Go.RowKit


end Go.Proofs.YtbgggepdlkbpoaaGreatDoor
namespace Go.Proofs.YtbgggepdlkbpoaaGreatDoor
open Go.RowKit

theorem largeB_q {x y : Rat} : largeB (rwq x) (rwq y) = !decide (qw x ≤ 512 ∧ qw y ≤ 512) := by
  unfold largeB rwq qw
  dsimp only
  rw [Bool.eq_iff_iff]
  simp only [Bool.or_eq_true, decide_eq_true_eq, Bool.not_eq_true', decide_eq_false_iff_not, Nat.max_le]
  omega
/-- fit of what is of one's own -/
def RetF (w : World) (base : Nat) (x : Rw × Rw × Int) (e : Ending) (w' : World) : Prop := ∃ A1 c1 D1 d1 A2 c2 D2 d2, e = .returned (.tuple #[.agg #[.bool x.1.s, .slice A1 x.1.a.length c1, .slice D1 x.1.b.length d1, .bool x.2.1.s, .slice A2 x.2.1.a.length c2, .slice D2 x.2.1.b.length d2], .int .i64 x.2.2]) ∧
  OW w' base A1 c1 x.1.a ∧ OW w' base D1 d1 x.1.b ∧ OW w' base A2 c2 x.2.1.a ∧ OW w' base D2 d2 x.2.1.b ∧ Below w.heap.size w w'
end Go.Proofs.YtbgggepdlkbpoaaGreatDoor
namespace Go.Proofs.YtbgggepdlkbpoaaGreatDoor
open Go.RowKit


end Go.Proofs.YtbgggepdlkbpoaaGreatDoor
namespace Go.Proofs.YtbgggepdlkbpoaaGreatDoor
open Go.RowKit


end Go.Proofs.YtbgggepdlkbpoaaGreatDoor
namespace Go.Proofs.YtbgggepdlkbpoaaGreatDoor
open Go.RowKit

/-- the error of one argument, of two: all sound, then all whole -/
def bchkN1 (r i : Rw) : Int := if nB r i = true then (if wB r i = true then 0 else 10) else 2
def bchkN2 (r i r' i' : Rw) : Int := if nB r i = true ∧ nB r' i' = true then (if wB r i = true ∧ wB r' i' = true then 0 else 10) else 2


set_option maxHeartbeats 8000000 in
theorem bcheck1_any (g : Nat) (s11 : Bool) (a11 b11 : List Nat) (s12 : Bool) (a12 b12 : List Nat) (A11 : Option Addr) (c11 : Nat) (D11 : Option Addr) (d11 : Nat) (A12 : Option Addr) (c12 : Nat) (D12 : Option Addr) (d12 : Nat) (w : World) (hg : SB w g [.bool s11, .slice A11 a11.length c11, .slice D11 b11.length d11, .bool s12, .slice A12 a12.length c12, .slice D12 b12.length d12]) (r11 : RW w w.heap.size A11 c11 a11) (r12 : RW w w.heap.size D11 d11 b11) (r13 : RW w w.heap.size A12 c12 a12) (r14 : RW w w.heap.size D12 d12 b12) :
    Calls Tryz.prog 15 #[.slice (some ⟨g, 0, none⟩) 1 1] w fun e w' => e = .returned (.int .i64 (bchkN1 ⟨s11, a11, b11⟩ ⟨s12, a12, b12⟩)) ∧ Below w.heap.size w w' := by
  have h1 := fun w' B => esound_any (.agg #[.bool s11, .slice A11 a11.length c11, .slice D11 b11.length d11, .bool s12, .slice A12 a12.length c12, .slice D12 b12.length d12]) ⟨s11, a11, b11⟩ ⟨s12, a12, b12⟩ w' (vns r11 r12 r13 r14 B)
  have f1 := fun w' B => whole1_any (.agg #[.bool s11, .slice A11 a11.length c11, .slice D11 b11.length d11, .bool s12, .slice A12 a12.length c12, .slice D12 b12.length d12]) ⟨s11, a11, b11⟩ ⟨s12, a12, b12⟩ w' (vns r11 r12 r13 r14 B)
  obtain ⟨n1, hn1⟩ : ∃ z, Hid (nB ⟨s11, a11, b11⟩ ⟨s12, a12, b12⟩ = z) := ⟨_, rfl⟩
  simp only [hn1.out] at h1
  obtain ⟨y1, hy1⟩ : ∃ z, Hid (wB ⟨s11, a11, b11⟩ ⟨s12, a12, b12⟩ = z) := ⟨_, rfl⟩
  simp only [hy1.out] at f1
  have hval : Hid (bchkN1 ⟨s11, a11, b11⟩ ⟨s12, a12, b12⟩ = if n1 = true then (if y1 = true then 0 else 10) else 2) := by
    show _ = _
    unfold bchkN1
    rw [hn1.out, hy1.out]
  obtain ⟨ans, hans⟩ : ∃ z : Int, Hid (bchkN1 ⟨s11, a11, b11⟩ ⟨s12, a12, b12⟩ = z) := ⟨_, rfl⟩
  rw [hans.out]
  go_enter Tryz.func15, Tryz.ntmps15
  go_wp2_with fail
  go_loopg [9] 1 (fun gg iv wr => ∃ k : Nat, k ≤ 1 ∧ 1 - k = gg ∧ iv = .int .i64 (k : Int) ∧ (1 ≤ k → n1 = true) ∧ Below w.heap.size w wr)
  case atStart => exact ⟨0, by omega, rfl, rfl, by intro h; omega, Below.refl _ _⟩
  case round =>
    obtain ⟨k, hk, rfl, rfl, q1, Bl⟩ := hrel
    by_cases h0 : k < 1
    · obtain rfl : k = 0 := by omega
      · have G := hg.nx Bl
        have m0 := G.cell 0
        have m1 := G.cell 1
        have m2 := G.cell 2
        have m3 := G.cell 3
        have m4 := G.cell 4
        have m5 := G.cell 5
        have Bn := bal wr (.cells #[.bool s11, .slice A11 a11.length c11, .slice D11 b11.length d11, .bool s12, .slice A12 a12.length c12, .slice D12 b12.length d12] 26)
        cases n1 with
        | false =>
          go_wp2_with fail
          refine (h1 _ (bt Bl Bn)).mono ?_; rintro e w3 ⟨rfl, B3⟩
          go_wp2_with fail
          go_ret
          exact ⟨by rw [← hans.out, hval.out, if_neg (by simp)]; rfl, bt (bt Bl Bn) B3⟩
        | true =>
          go_wp2_with fail
          refine (h1 _ (bt Bl Bn)).mono ?_; rintro e w3 ⟨rfl, B3⟩
          go_wp2_with fail
          go_roundg 0
          case measure => omega
          case rel => exact ⟨1, by omega, rfl, rfl, fun _ => by trivial, bt (bt Bl Bn) B3⟩
    · obtain rfl : k = 1 := by omega
      have t1 := q1 (by omega)
      subst t1
      clear q1 h0
      have hval2 : Hid (ans = if y1 = true then 0 else 10) := by show _ = _; rw [← hans.out, hval.out, if_pos rfl]
      clear hval
      go_wp2_with fail
      go_loopg [19] 1 (fun gg iv ww => ∃ k : Nat, k ≤ 1 ∧ 1 - k = gg ∧ iv = .int .i64 (k : Int) ∧ (1 ≤ k → y1 = true) ∧ Below w.heap.size w ww)
      case atStart => exact ⟨0, by omega, rfl, rfl, by intro h; omega, Bl⟩
      case round =>
        obtain ⟨k, hk, rfl, rfl, q1, Bm⟩ := hrel
        by_cases h0 : k < 1
        · obtain rfl : k = 0 := by omega
          · have G := hg.nx Bm
            have m0 := G.cell 0
            have m1 := G.cell 1
            have m2 := G.cell 2
            have m3 := G.cell 3
            have m4 := G.cell 4
            have m5 := G.cell 5
            have Bn := bal wr (.cells #[.bool s11, .slice A11 a11.length c11, .slice D11 b11.length d11, .bool s12, .slice A12 a12.length c12, .slice D12 b12.length d12] 26)
            cases y1 with
            | false =>
              go_wp2_with fail
              refine (f1 _ (bt Bm Bn)).mono ?_; rintro e w3 ⟨rfl, B3⟩
              go_wp2_with fail
              go_ret
              exact ⟨by rw [hval2.out, if_neg (by simp)]; rfl, bt (bt Bm Bn) B3⟩
            | true =>
              go_wp2_with fail
              refine (f1 _ (bt Bm Bn)).mono ?_; rintro e w3 ⟨rfl, B3⟩
              go_wp2_with fail
              go_roundg 0
              case measure => omega
              case rel => exact ⟨1, by omega, rfl, rfl, fun _ => by trivial, bt (bt Bm Bn) B3⟩
        · obtain rfl : k = 1 := by omega
          have z1 := q1 (by omega)
          have hfin : Hid (ans = 0) := by
            show _ = _
            rw [hval2.out, if_pos z1]
          clear q1 z1 hval2 h0
          go_wp2_with fail
          go_ret
          exact ⟨by rw [hfin.out]; rfl, Bm⟩


set_option maxHeartbeats 8000000 in
theorem bcheck2_any (g : Nat) (s11 : Bool) (a11 b11 : List Nat) (s12 : Bool) (a12 b12 : List Nat) (A11 : Option Addr) (c11 : Nat) (D11 : Option Addr) (d11 : Nat) (A12 : Option Addr) (c12 : Nat) (D12 : Option Addr) (d12 : Nat) (s21 : Bool) (a21 b21 : List Nat) (s22 : Bool) (a22 b22 : List Nat) (A21 : Option Addr) (c21 : Nat) (D21 : Option Addr) (d21 : Nat) (A22 : Option Addr) (c22 : Nat) (D22 : Option Addr) (d22 : Nat) (w : World) (hg : SB w g [.bool s11, .slice A11 a11.length c11, .slice D11 b11.length d11, .bool s12, .slice A12 a12.length c12, .slice D12 b12.length d12, .bool s21, .slice A21 a21.length c21, .slice D21 b21.length d21, .bool s22, .slice A22 a22.length c22, .slice D22 b22.length d22]) (r11 : RW w w.heap.size A11 c11 a11) (r12 : RW w w.heap.size D11 d11 b11) (r13 : RW w w.heap.size A12 c12 a12) (r14 : RW w w.heap.size D12 d12 b12) (r21 : RW w w.heap.size A21 c21 a21) (r22 : RW w w.heap.size D21 d21 b21) (r23 : RW w w.heap.size A22 c22 a22) (r24 : RW w w.heap.size D22 d22 b22) :
    Calls Tryz.prog 15 #[.slice (some ⟨g, 0, none⟩) 2 2] w fun e w' => e = .returned (.int .i64 (bchkN2 ⟨s11, a11, b11⟩ ⟨s12, a12, b12⟩ ⟨s21, a21, b21⟩ ⟨s22, a22, b22⟩)) ∧ Below w.heap.size w w' := by
  have h1 := fun w' B => esound_any (.agg #[.bool s11, .slice A11 a11.length c11, .slice D11 b11.length d11, .bool s12, .slice A12 a12.length c12, .slice D12 b12.length d12]) ⟨s11, a11, b11⟩ ⟨s12, a12, b12⟩ w' (vns r11 r12 r13 r14 B)
  have f1 := fun w' B => whole1_any (.agg #[.bool s11, .slice A11 a11.length c11, .slice D11 b11.length d11, .bool s12, .slice A12 a12.length c12, .slice D12 b12.length d12]) ⟨s11, a11, b11⟩ ⟨s12, a12, b12⟩ w' (vns r11 r12 r13 r14 B)
  have h2 := fun w' B => esound_any (.agg #[.bool s21, .slice A21 a21.length c21, .slice D21 b21.length d21, .bool s22, .slice A22 a22.length c22, .slice D22 b22.length d22]) ⟨s21, a21, b21⟩ ⟨s22, a22, b22⟩ w' (vns r21 r22 r23 r24 B)
  have f2 := fun w' B => whole1_any (.agg #[.bool s21, .slice A21 a21.length c21, .slice D21 b21.length d21, .bool s22, .slice A22 a22.length c22, .slice D22 b22.length d22]) ⟨s21, a21, b21⟩ ⟨s22, a22, b22⟩ w' (vns r21 r22 r23 r24 B)
  obtain ⟨n1, hn1⟩ : ∃ z, Hid (nB ⟨s11, a11, b11⟩ ⟨s12, a12, b12⟩ = z) := ⟨_, rfl⟩
  simp only [hn1.out] at h1
  obtain ⟨y1, hy1⟩ : ∃ z, Hid (wB ⟨s11, a11, b11⟩ ⟨s12, a12, b12⟩ = z) := ⟨_, rfl⟩
  simp only [hy1.out] at f1
  obtain ⟨n2, hn2⟩ : ∃ z, Hid (nB ⟨s21, a21, b21⟩ ⟨s22, a22, b22⟩ = z) := ⟨_, rfl⟩
  simp only [hn2.out] at h2
  obtain ⟨y2, hy2⟩ : ∃ z, Hid (wB ⟨s21, a21, b21⟩ ⟨s22, a22, b22⟩ = z) := ⟨_, rfl⟩
  simp only [hy2.out] at f2
  have hval : Hid (bchkN2 ⟨s11, a11, b11⟩ ⟨s12, a12, b12⟩ ⟨s21, a21, b21⟩ ⟨s22, a22, b22⟩ = if n1 = true ∧ n2 = true then (if y1 = true ∧ y2 = true then 0 else 10) else 2) := by
    show _ = _
    unfold bchkN2
    rw [hn1.out, hn2.out, hy1.out, hy2.out]
  obtain ⟨ans, hans⟩ : ∃ z : Int, Hid (bchkN2 ⟨s11, a11, b11⟩ ⟨s12, a12, b12⟩ ⟨s21, a21, b21⟩ ⟨s22, a22, b22⟩ = z) := ⟨_, rfl⟩
  rw [hans.out]
  go_enter Tryz.func15, Tryz.ntmps15
  go_wp2_with fail
  go_loopg [9] 2 (fun gg iv wr => ∃ k : Nat, k ≤ 2 ∧ 2 - k = gg ∧ iv = .int .i64 (k : Int) ∧ (1 ≤ k → n1 = true) ∧ (2 ≤ k → n2 = true) ∧ Below w.heap.size w wr)
  case atStart => exact ⟨0, by omega, rfl, rfl, by intro h; omega, by intro h; omega, Below.refl _ _⟩
  case round =>
    obtain ⟨k, hk, rfl, rfl, q1, q2, Bl⟩ := hrel
    by_cases h0 : k < 2
    · obtain rfl | rfl : k = 0 ∨ k = 1 := by omega
      · have G := hg.nx Bl
        have m0 := G.cell 0
        have m1 := G.cell 1
        have m2 := G.cell 2
        have m3 := G.cell 3
        have m4 := G.cell 4
        have m5 := G.cell 5
        have Bn := bal wr (.cells #[.bool s11, .slice A11 a11.length c11, .slice D11 b11.length d11, .bool s12, .slice A12 a12.length c12, .slice D12 b12.length d12] 26)
        cases n1 with
        | false =>
          go_wp2_with fail
          refine (h1 _ (bt Bl Bn)).mono ?_; rintro e w3 ⟨rfl, B3⟩
          go_wp2_with fail
          go_ret
          exact ⟨by rw [← hans.out, hval.out, if_neg (by simp)]; rfl, bt (bt Bl Bn) B3⟩
        | true =>
          go_wp2_with fail
          refine (h1 _ (bt Bl Bn)).mono ?_; rintro e w3 ⟨rfl, B3⟩
          go_wp2_with fail
          go_roundg 1
          case measure => omega
          case rel => exact ⟨1, by omega, rfl, rfl, fun _ => by trivial, by intro h; omega, bt (bt Bl Bn) B3⟩
      · have G := hg.nx Bl
        have m0 := G.cell 6
        have m1 := G.cell 7
        have m2 := G.cell 8
        have m3 := G.cell 9
        have m4 := G.cell 10
        have m5 := G.cell 11
        have Bn := bal wr (.cells #[.bool s21, .slice A21 a21.length c21, .slice D21 b21.length d21, .bool s22, .slice A22 a22.length c22, .slice D22 b22.length d22] 26)
        cases n2 with
        | false =>
          go_wp2_with fail
          refine (h2 _ (bt Bl Bn)).mono ?_; rintro e w3 ⟨rfl, B3⟩
          go_wp2_with fail
          go_ret
          exact ⟨by rw [← hans.out, hval.out, if_neg (by simp)]; rfl, bt (bt Bl Bn) B3⟩
        | true =>
          go_wp2_with fail
          refine (h2 _ (bt Bl Bn)).mono ?_; rintro e w3 ⟨rfl, B3⟩
          go_wp2_with fail
          go_roundg 0
          case measure => omega
          case rel => exact ⟨2, by omega, rfl, rfl, fun _ => q1 (by omega), fun _ => by trivial, bt (bt Bl Bn) B3⟩
    · obtain rfl : k = 2 := by omega
      have t1 := q1 (by omega)
      have t2 := q2 (by omega)
      subst t1 t2
      clear q1 q2 h0
      have hval2 : Hid (ans = if y1 = true ∧ y2 = true then 0 else 10) := by show _ = _; rw [← hans.out, hval.out, if_pos ⟨rfl, rfl⟩]
      clear hval
      go_wp2_with fail
      go_loopg [19] 2 (fun gg iv ww => ∃ k : Nat, k ≤ 2 ∧ 2 - k = gg ∧ iv = .int .i64 (k : Int) ∧ (1 ≤ k → y1 = true) ∧ (2 ≤ k → y2 = true) ∧ Below w.heap.size w ww)
      case atStart => exact ⟨0, by omega, rfl, rfl, by intro h; omega, by intro h; omega, Bl⟩
      case round =>
        obtain ⟨k, hk, rfl, rfl, q1, q2, Bm⟩ := hrel
        by_cases h0 : k < 2
        · obtain rfl | rfl : k = 0 ∨ k = 1 := by omega
          · have G := hg.nx Bm
            have m0 := G.cell 0
            have m1 := G.cell 1
            have m2 := G.cell 2
            have m3 := G.cell 3
            have m4 := G.cell 4
            have m5 := G.cell 5
            have Bn := bal wr (.cells #[.bool s11, .slice A11 a11.length c11, .slice D11 b11.length d11, .bool s12, .slice A12 a12.length c12, .slice D12 b12.length d12] 26)
            cases y1 with
            | false =>
              go_wp2_with fail
              refine (f1 _ (bt Bm Bn)).mono ?_; rintro e w3 ⟨rfl, B3⟩
              go_wp2_with fail
              go_ret
              exact ⟨by rw [hval2.out, if_neg (by simp)]; rfl, bt (bt Bm Bn) B3⟩
            | true =>
              go_wp2_with fail
              refine (f1 _ (bt Bm Bn)).mono ?_; rintro e w3 ⟨rfl, B3⟩
              go_wp2_with fail
              go_roundg 1
              case measure => omega
              case rel => exact ⟨1, by omega, rfl, rfl, fun _ => by trivial, by intro h; omega, bt (bt Bm Bn) B3⟩
          · have G := hg.nx Bm
            have m0 := G.cell 6
            have m1 := G.cell 7
            have m2 := G.cell 8
            have m3 := G.cell 9
            have m4 := G.cell 10
            have m5 := G.cell 11
            have Bn := bal wr (.cells #[.bool s21, .slice A21 a21.length c21, .slice D21 b21.length d21, .bool s22, .slice A22 a22.length c22, .slice D22 b22.length d22] 26)
            cases y2 with
            | false =>
              go_wp2_with fail
              refine (f2 _ (bt Bm Bn)).mono ?_; rintro e w3 ⟨rfl, B3⟩
              go_wp2_with fail
              go_ret
              exact ⟨by rw [hval2.out, if_neg (by simp)]; rfl, bt (bt Bm Bn) B3⟩
            | true =>
              go_wp2_with fail
              refine (f2 _ (bt Bm Bn)).mono ?_; rintro e w3 ⟨rfl, B3⟩
              go_wp2_with fail
              go_roundg 0
              case measure => omega
              case rel => exact ⟨2, by omega, rfl, rfl, fun _ => q1 (by omega), fun _ => by trivial, bt (bt Bm Bn) B3⟩
        · obtain rfl : k = 2 := by omega
          have z1 := q1 (by omega)
          have z2 := q2 (by omega)
          have hfin : Hid (ans = 0) := by
            show _ = _
            rw [hval2.out, if_pos ⟨z1, z2⟩]
          clear q1 z1 q2 z2 hval2 h0
          go_wp2_with fail
          go_ret
          exact ⟨by rw [hfin.out]; rfl, Bm⟩


end Go.Proofs.YtbgggepdlkbpoaaGreatDoor
namespace Go.Proofs.YtbgggepdlkbpoaaGreatDoor
open Go.RowKit

theorem wp_copyW (w : World) {ops : Array Oper} {rest : List Oper} {o : Oper} {a : Act} {Q : Exit → Act → World → Prop} (hgd : o.guard = none) (d s : Operand)
    (ho : o.op = .call { callee := .builtin .copy, args := #[d, s], argTypes := #[22, 22] })
    (g off dLen dCap base c : Nat) (l : List Nat) (hO : OW w base (some ⟨g, 0, none⟩) c l) (hd : a.eval d = .slice (some ⟨g, off, none⟩) dLen dCap)
    (D : Option Addr) (sCap B n : Nat) (r : List Nat) (hs : a.eval s = .slice D n sCap) (hn : n = r.length) (hr : RW w B D sCap r) (h1 : r.length ≤ dLen) (h2 : off + r.length ≤ l.length) (hr0 : 0 < r.length)
    (hK : ∀ w', OW w' base (some ⟨g, 0, none⟩) c (l.take off ++ (r ++ l.drop (off + r.length))) → Below base w w' → wpList Tryz.prog ops Q rest (a.put o.dst (goInt r.length)) w') :
    wpList Tryz.prog ops Q (o :: rest) a w := by
  subst hn
  obtain ⟨b, o2, rfl, _, hc⟩ := hr.1.at_ hr0
  have hbase := hO.lt.1
  rcases hO.1.1.2 with ⟨e, _⟩ | ⟨g', cap, cur, e, _, hh, hn, hcm, hcs, ht⟩
  · cases e
  · simp only [Value.slice.injEq, Option.some.injEq, Addr.mk.injEq, and_true] at e
    obtain ⟨rfl, _, rfl⟩ := e
    have hcur : cur.size = c := by rw [hcs, Nat.mul_one]
    rw [Nat.mul_one] at ht
    have hlc : l.length ≤ c := hn
    have hl2 : cur.toList.length = c := by simpa using hcur
    refine wpList_copy_own hgd d s 22 22 ho 55 Tryz.underlying22 (by kernel_rfl) g off dLen dCap ⟨b, o2, none⟩ r.length sCap hd hs cur 55 hh (r.map fw) (by rw [List.length_map]; exact (Nat.min_eq_left h1).symm)
      (fun j v hj => by
        rw [List.getElem?_map] at hj
        obtain ⟨y, hy, rfl⟩ := Option.map_eq_some_iff.1 hj
        rw [Addr.add_lit]
        exact hc j y hy) (by simp; omega) (fun v hv => by obtain ⟨y, _, rfl⟩ := List.mem_map.1 hv; rfl) ?_
    rw [List.length_map]
    have hl1 : (l.take off ++ (r ++ l.drop (off + r.length))).length = l.length := by simp; omega
    have hX : (cur.toList.take off ++ (r.map fw ++ cur.toList.drop (off + r.length))).take l.length = (l.take off ++ (r ++ l.drop (off + r.length))).map fw := by
      obtain ⟨rs, hrs⟩ : ∃ rs, cur.toList = l.map fw ++ rs := ⟨_, by rw [← ht]; exact (List.take_append_drop ..).symm⟩
      have e1 : cur.toList.take off = (l.map fw).take off := by rw [hrs]; exact List.take_append_of_le_length (by simp; omega)
      have e2 : cur.toList.drop (off + r.length) = (l.map fw).drop (off + r.length) ++ rs := by rw [hrs]; exact List.drop_append_of_le_length (by simp; omega)
      rw [e1, e2, ← List.append_assoc, ← List.append_assoc, List.take_left' (by simp; omega)]
      simp [List.map_take, List.map_drop]
    have hB : B32 (l.take off ++ (r ++ l.drop (off + r.length))) := by
      intro x hx
      simp only [List.mem_append] at hx
      rcases hx with hx | hx | hx
      · exact hO.2 x (List.mem_of_mem_take hx)
      · exact hr.2 x hx
      · exact hO.2 x (List.mem_of_mem_drop hx)
    refine hK _ ⟨⟨⟨by simp, .inr ⟨g, c, _, by rw [hl1], hbase, setRow_heap w g cur _ _ _ hh, by rw [hl1]; exact hlc, hcm, by simp; omega, ?_⟩⟩, by rw [hl1]; exact hO.1.2⟩, hB⟩ (below_setRow (Below.refl _ _) hbase _)
    rw [hl1, Nat.mul_one]
    exact hX
theorem low_nat {N v : Nat} (h : v < 2 ^ N) : lowN N (v : Int) = v := by
  unfold lowN
  rw [Int.emod_eq_of_lt (by omega) (by omega), Int.toNat_natCast]
theorem row_pos {v n : Nat} (h : (digs v).length ≤ n) : digs v ++ List.replicate (n - (digs v).length) 0 = rowI n (v : Int) := by
  have hb : B32 (digs v ++ List.replicate (n - (digs v).length) 0) := by
    intro x hx
    rcases List.mem_append.1 hx with hx | hx
    · exact B32_digs v x hx
    · have := (List.mem_replicate.1 hx).2
      omega
  have hl : (digs v ++ List.replicate (n - (digs v).length) 0).length = n := by simp; omega
  have hv : val (digs v ++ List.replicate (n - (digs v).length) 0) = v := by rw [val_append, val_replicate, Nat.mul_zero, Nat.add_zero, val_digs]
  have h1 := wordsN_of hb
  rw [hl, hv] at h1
  rw [← h1]
  unfold rowI
  rw [low_nat (by rw [← Wp_eq]; exact digs_len_le.1 h)]

set_option maxRecDepth 100000 in
set_option maxHeartbeats 4000000 in
theorem row_raw (sg s2 : Bool) (A1 D1 A2 D2 : Option Addr) (c1 nb d1 n2 c2 n3 d2 : Nat) (a : List Nat) (n : Nat) (w : World) (p1 : RW w w.heap.size A1 c1 a) (hn : a.length ≤ n) (hn1 : 1 ≤ n) (hn2 : n ≤ 1000000) :
    Calls Tryz.prog 28 #[.agg #[.bool sg, .slice A1 a.length c1, .slice D1 nb d1, .bool s2, .slice A2 n2 c2, .slice D2 n3 d2], .int .i64 (n : Int)] w fun e w' => ∃ g, e = .returned (.slice (some ⟨g, 0, none⟩) n n) ∧
      OW w' w.heap.size (some ⟨g, 0, none⟩) n (if sg = true then wordsN n ((Wp n - val (a ++ List.replicate (n - a.length) 0)) % Wp n) else a ++ List.replicate (n - a.length) 0) ∧ Below w.heap.size w w' := by
  have B1 := bal w (.cells #[.bool sg, .slice A1 a.length c1, .slice D1 nb d1, .bool s2, .slice A2 n2 c2, .slice D2 n3 d2] 26)
  have S1 := SB.new w [.bool sg, .slice A1 a.length c1, .slice D1 nb d1, .bool s2, .slice A2 n2 c2, .slice D2 n3 d2] 26
  obtain ⟨W1, hW1⟩ : ∃ W1, W1 = w.alloc (.cells #[.bool sg, .slice A1 a.length c1, .slice D1 nb d1, .bool s2, .slice A2 n2 c2, .slice D2 n3 d2] 26) := ⟨_, rfl⟩
  have R1 := st p1 B1
  go_enter Tryz.func28, Tryz.ntmps28
  go_upto_region 1 with fail
  rw [← hW1] at S1 B1 R1 ⊢
  clear hW1
  go_upto_region 2 with (at_make; refine wp_makeW _ rfl _ _ rfl .i64 .i64 _ _ n rfl rfl (by omega) (by omega) (by omega) ?_; intro wm hOm hbm hsm)
  have Sm := S1.nx hbm
  have i0 := Sm.cell 0
  have i1 := Sm.cell 1
  have i2 := Sm.cell 2
  have hz := B1.size
  have hL : (a ++ List.replicate (n - a.length) 0).length = n := by simp; omega
  have fin : ∀ w5, OW w5 W1.heap.size (some ⟨W1.heap.size, 0, none⟩) n (a ++ List.replicate (n - a.length) 0) → Below W1.heap.size wm w5 → OW w5 W1.heap.size (some ⟨W1.heap.size, 0, none⟩) n (a ++ List.replicate (n - a.length) 0) ∧ Below w.heap.size w w5 ∧ w5.cell? ⟨w.heap.size, 0, none⟩ = some (.bool sg) :=
    fun w5 O B => ⟨O, bt B1 (hbm.trans B), (S1.nx (hbm.trans B)).cell 0⟩
  have hTu := fun w5 O => turn_any W1.heap.size n (a ++ List.replicate (n - a.length) 0) w5 W1.heap.size O
  rw [hL] at hTu
  by_cases ha : a.length = 0
  · have ha' : a = [] := List.eq_nil_of_length_eq_zero ha
    have e : a ++ List.replicate (n - a.length) 0 = List.replicate n 0 := by rw [ha']; simp
    go_upto_region 3 with (refine wpList_copy_nothing rfl _ _ 22 22 rfl 55 Tryz.underlying22 (by kernel_rfl) (some ⟨W1.heap.size, 0, none⟩) A1 n n _ c1 rfl rfl (Nat.zero_min n) ?_)
    obtain ⟨O5, C5, j0⟩ := fin wm (by rw [e]; exact hOm) (Below.refl _ _)
    clear i0 i1 i2 fin
    cases sg with
    | false =>
      go_wp2_with fail
      go_ret
      rw [e] at O5
      exact ⟨W1.heap.size, rfl, O5.base_le hz, C5⟩
    | true =>
      have hT := hTu wm O5
      go_wp2_with fail
      refine hT.mono ?_; rintro e6 w6 ⟨rfl, O6, B6, _⟩
      go_wp2_with fail
      go_ret
      rw [e] at O6
      exact ⟨W1.heap.size, rfl, O6.base_le hz, C5.trans (B6.mono hz)⟩
  · have e : (List.replicate n 0).take 0 ++ (a ++ (List.replicate n 0).drop (0 + a.length)) = a ++ List.replicate (n - a.length) 0 := by simp
    go_upto_region 3 with (refine wp_copyW _ rfl _ _ rfl W1.heap.size 0 n n W1.heap.size n (List.replicate n 0) hOm rfl A1 c1 wm.heap.size _ a rfl rfl (RW.step R1 hbm hbm.size) (by omega) (by simp; omega) (by omega) ?_; intro w5 O5 B5)
    rw [e] at O5
    obtain ⟨O5, C5, j0⟩ := fin w5 O5 B5
    clear i0 i1 i2 fin e
    cases sg with
    | false =>
      go_wp2_with fail
      go_ret
      exact ⟨W1.heap.size, rfl, O5.base_le hz, C5⟩
    | true =>
      have hT := hTu w5 O5
      go_wp2_with fail
      refine hT.mono ?_; rintro e w6 ⟨rfl, O6, B6, _⟩
      go_wp2_with fail
      go_ret
      exact ⟨W1.heap.size, rfl, O6.base_le hz, C5.trans (B6.mono hz)⟩
/-- row: a whole number's n words in two's complement -/
theorem row_any (V : Value) (X : Int) (n : Nat) (w : World) (hV : VN w w.heap.size V (rwq ((X : Int) : Rat)) (rwq 0)) (hn : (digs X.natAbs).length ≤ n) (hn1 : 1 ≤ n) (hn2 : n ≤ 1000000) :
    Calls Tryz.prog 28 #[V, .int .i64 (n : Int)] w fun e w' => ∃ g, e = .returned (.slice (some ⟨g, 0, none⟩) n n) ∧ OW w' w.heap.size (some ⟨g, 0, none⟩) n (rowI n X) ∧ Below w.heap.size w w' := by
  obtain ⟨A1, c1, D1, d1, A2, c2, D2, d2, rfl, p1, _, _, _⟩ := hV
  have h := row_raw (rwq ((X : Int) : Rat)).s (rwq 0).s A1 D1 A2 D2 c1 (rwq ((X : Int) : Rat)).b.length d1 (rwq 0).a.length c2 (rwq 0).b.length d2 (rwq ((X : Int) : Rat)).a n w p1 hn hn1 hn2
  refine h.mono ?_
  rintro e w' ⟨g, he, hO, hB⟩
  refine ⟨g, he, ?_, hB⟩
  have e1 : (rwq ((X : Int) : Rat)).s = decide (X < 0) := rfl
  have e2 : (rwq ((X : Int) : Rat)).a ++ List.replicate (n - (rwq ((X : Int) : Rat)).a.length) 0 = rowI n (X.natAbs : Int) := row_pos hn
  rw [e1, e2] at hO
  by_cases h0 : X < 0
  · rw [decide_eq_true h0, if_pos rfl, turn_row, show -((X.natAbs : Nat) : Int) = X by omega] at hO
    exact hO
  · rw [decide_eq_false h0, if_neg (by simp), show ((X.natAbs : Nat) : Int) = X by omega] at hO
    exact hO
end Go.Proofs.YtbgggepdlkbpoaaGreatDoor
