/- Merged texts: WtP. -/
import Derived.Test.YtbgggepdlkbpoaaGreatDoorGT
import Derived.Test.YtbgggepdlkbpoaaGreatDoorGU
import Derived.Test.YtbgggepdlkbpoaaGreatDoorGL
import Derived.Laws.CopyOwn
namespace Go.Proofs.YtbgggepdlkbpoaaGreatDoor
open Go.RowKit

theorem wp_makeB (w : World) {ops : Array Oper} {rest : List Oper} {o : Oper} {a : Act} {Q : Exit → Act → World → Prop}
    (hg : o.guard = none) (x c : Operand) (hop : o.op = Op.makeSlice 31 x c)
    (kl kc : IntKind) (L C : Int) (n : Nat) (hl : a.eval x = .int kl L) (hc : a.eval c = .int kc C) (hL : L = (n : Int)) (hC : C = (n : Int)) (hn : n ≤ 1000000)
    (hK : ∀ w', OBT w' w.heap.size (some ⟨w.heap.size, 0, none⟩) n (List.replicate n 0) → Below w.heap.size w w' → w.heap.size + 1 ≤ w'.heap.size → wpList Tryz.prog ops Q rest (a.put o.dst (.slice (some ⟨w.heap.size, 0, none⟩) n n)) w') :
    wpList Tryz.prog ops Q (o :: rest) a w :=
  wp_makeT w 31 5 f8T 0 1 Tryz.underlying31 infoBT rfl hg x c hop kl kc L C n hl hc hL hC (by omega) (by omega)
    fun w' h1 h2 h3 => hK w' h1 ((Below.refl _ _).grown h2 (Nat.le_refl _) (by intro k hk; cases hk)) h3
/-- copy into a slice of the call's own -/
theorem wp_copyB (w : World) {ops : Array Oper} {rest : List Oper} {o : Oper} {a : Act} {Q : Exit → Act → World → Prop} (hgd : o.guard = none) (d s : Operand)
    (ho : o.op = .call { callee := .builtin .copy, args := #[d, s], argTypes := #[31, 31] })
    (g off dLen dCap base c : Nat) (l : List UInt8) (hO : OBT w base (some ⟨g, 0, none⟩) c l) (hd : a.eval d = .slice (some ⟨g, off, none⟩) dLen dCap)
    (D : Option Addr) (sCap B n : Nat) (r : List UInt8) (hs : a.eval s = .slice D n sCap) (hn : n = r.length) (hr : RBT w B D sCap r) (h1 : r.length ≤ dLen) (h2 : off + r.length ≤ l.length) (hr0 : 0 < r.length)
    (hK : ∀ w', OBT w' base (some ⟨g, 0, none⟩) c (l.take off ++ (r ++ l.drop (off + r.length))) → Below base w w' → wpList Tryz.prog ops Q rest (a.put o.dst (goInt r.length)) w') :
    wpList Tryz.prog ops Q (o :: rest) a w := by
  subst hn
  obtain ⟨b, o2, rfl, _, hc⟩ := RM.at_ hr hr0
  have hbase := (OM.lt hO).1
  rcases hO.1.2 with ⟨e, _⟩ | ⟨g', cap, cur, e, _, hh, hn, hcm, hcs, ht⟩
  · cases e
  · simp only [Value.slice.injEq, Option.some.injEq, Addr.mk.injEq, and_true] at e
    obtain ⟨rfl, _, rfl⟩ := e
    have hcur : cur.size = c := by rw [hcs, Nat.mul_one]
    rw [Nat.mul_one] at ht
    have hlc : l.length ≤ c := hn
    have hl2 : cur.toList.length = c := by simpa using hcur
    refine wpList_copy_own hgd d s 31 31 ho 5 Tryz.underlying31 (by kernel_rfl) g off dLen dCap ⟨b, o2, none⟩ r.length sCap hd hs cur 5 hh (r.map f8T) (by rw [List.length_map]; exact (Nat.min_eq_left h1).symm)
      (fun j v hj => by
        rw [List.getElem?_map] at hj
        obtain ⟨y, hy, rfl⟩ := Option.map_eq_some_iff.1 hj
        rw [Addr.add_lit]
        exact hc j y hy) (by simp; omega) (fun v hv => by obtain ⟨y, _, rfl⟩ := List.mem_map.1 hv; rfl) ?_
    rw [List.length_map]
    have hl1 : (l.take off ++ (r ++ l.drop (off + r.length))).length = l.length := by simp; omega
    have hX : (cur.toList.take off ++ (r.map f8T ++ cur.toList.drop (off + r.length))).take l.length = (l.take off ++ (r ++ l.drop (off + r.length))).map f8T := by
      obtain ⟨rs, hrs⟩ : ∃ rs, cur.toList = l.map f8T ++ rs := ⟨_, by rw [← ht]; exact (List.take_append_drop ..).symm⟩
      have e1 : cur.toList.take off = (l.map f8T).take off := by rw [hrs]; exact List.take_append_of_le_length (by simp; omega)
      have e2 : cur.toList.drop (off + r.length) = (l.map f8T).drop (off + r.length) ++ rs := by rw [hrs]; exact List.drop_append_of_le_length (by simp; omega)
      rw [e1, e2, ← List.append_assoc, ← List.append_assoc, List.take_left' (by simp; omega)]
      simp [List.map_take, List.map_drop]
    refine hK _ ⟨⟨by simp, .inr ⟨g, c, _, by rw [hl1], hbase, setRow_heap w g cur _ _ _ hh, by rw [hl1]; exact hlc, hcm, by simp; omega, ?_⟩⟩, by rw [hl1]; exact hO.2⟩ (below_setRow (Below.refl _ _) hbase _)
    rw [hl1, Nat.mul_one]
    exact hX

/-- is a number one of s bytes? -/
def okS (s : Nat) (signed neg : Bool) (v : Nat) : Bool := if neg = true then signed && decide (v * 2 ≤ 256 ^ s) else (!(signed && decide (256 ^ s ≤ v * 2)) && decide (v < 256 ^ s))
def uS (s : Nat) (neg : Bool) (v : Nat) : Nat := if neg = true then 256 ^ s - v else v
def outB (s : Nat) (big : Bool) (u : Nat) : List UInt8 := if big = true then (bytesU u s).reverse else bytesU u s
def oneA (s : Nat) (big signed : Bool) (r i : Rw) : List UInt8 × Int :=
  if nB r i = true then (if wB r i = true then (if okS s signed r.s (val r.a) = true then (outB s big (uS s r.s (val r.a)), 0) else ([], 4)) else ([], 10)) else ([], 2)
theorem outB_len (s : Nat) (big : Bool) (u : Nat) : (outB s big u).length = s := by unfold outB; split <;> simp [bytesU_len]
/-- an answer: bytes and an error's number -/
def RetBE (w : World) (x : List UInt8 × Int) (e : Ending) (w' : World) : Prop := ∃ A c, e = .returned (.tuple #[.slice A x.1.length c, .int .i64 x.2]) ∧ OBT w' w.heap.size A c x.1 ∧ Below w.heap.size w w'
theorem retBE_nil {w w' : World} (k : Int) (hb : Below w.heap.size w w') : RetBE w ([], k) (.returned (.tuple #[.slice none 0 0, .int .i64 k])) w' := ⟨none, 0, rfl, OM.nil .., hb⟩


theorem cmpN_le' {x y : Nat} (h : x ≤ y) : cmpN x y ≤ 0 := by
  rcases Nat.lt_or_ge x y with h1 | h1
  · have := cmpN_lt h1; omega
  · obtain rfl : x = y := by omega
    rw [cmpN_self]; exact Int.le_refl 0
theorem cmpN_lt' {x y : Nat} (h : x < y) : cmpN x y < 0 := by have := cmpN_lt h; omega
theorem cmpN_gt' {x y : Nat} (h : y < x) : 0 < cmpN x y := by have := cmpN_gt h; omega
theorem shr_byte {x : Nat} {j : Nat} {b : UInt8} (h : x / 2 ^ (8 * (j % 4)) % 256 = b.toNat) : ((x : Int) / 2 ^ (8 * (j % 4))) % 256 = (b.toNat : Int) := by
  rw [← h, Int.natCast_emod, Int.natCast_ediv, Int.natCast_pow]; rfl
set_option maxRecDepth 100000 in
set_option maxHeartbeats 16000000 in
theorem one_any (s : Nat) (big signed : Bool) (v : Value) (r i : Rw) (w : World) (hs1 : 1 ≤ s) (hs64 : s ≤ 64) (h : VN w w.heap.size v r i) :
    Calls Tryz.prog 20 #[.int .i64 (s : Int), .bool big, .bool signed, v] w (RetBE w (oneA s big signed r i)) := by
  obtain ⟨s1, a1, b1⟩ := r
  obtain ⟨s2, a2, b2⟩ := i
  obtain ⟨A1, c1, D1, d1, A2, c2, D2, d2, rfl, r1, r2, r3, r4⟩ := h
  dsimp only at r1 r2 r3 r4 ⊢
  have B1 := bal w (.cells #[.bool s1, .slice A1 a1.length c1, .slice D1 b1.length d1, .bool s2, .slice A2 a2.length c2, .slice D2 b2.length d2] 26)
  have S1 := SB.new w [.bool s1, .slice A1 a1.length c1, .slice D1 b1.length d1, .bool s2, .slice A2 a2.length c2, .slice D2 b2.length d2] 26
  have m0 := S1.cell 0
  have m1 := S1.cell 1
  have m2 := S1.cell 2
  have m3 := S1.cell 3
  have m4 := S1.cell 4
  have m5 := S1.cell 5
  have h0 := esound_any (.agg #[.bool s1, .slice A1 a1.length c1, .slice D1 b1.length d1, .bool s2, .slice A2 a2.length c2, .slice D2 b2.length d2]) ⟨s1, a1, b1⟩ ⟨s2, a2, b2⟩ _ (vns r1 r2 r3 r4 B1)
  have h1 := fun w' x => whole1_any (.agg #[.bool s1, .slice A1 a1.length c1, .slice D1 b1.length d1, .bool s2, .slice A2 a2.length c2, .slice D2 b2.length d2]) ⟨s1, a1, b1⟩ ⟨s2, a2, b2⟩ w' x
  unfold oneA
  cases hx : nB ⟨s1, a1, b1⟩ ⟨s2, a2, b2⟩ with
  | false =>
    rw [hx] at h0
    rw [if_neg (by simp)]
    clear hx h1
    go_enter Tryz.func20, Tryz.ntmps20
    go_wp2_with fail
    refine h0.mono ?_; rintro e w3 ⟨rfl, B3⟩
    go_wp2_with fail
    go_ret2
    exact retBE_nil 2 (bt B1 B3)
  | true =>
    rw [hx] at h0
    rw [if_pos rfl]
    clear hx
    cases hw : wB ⟨s1, a1, b1⟩ ⟨s2, a2, b2⟩ with
    | false =>
      simp only [hw] at h1
      rw [if_neg (by simp)]
      clear hw
      go_enter Tryz.func20, Tryz.ntmps20
      go_wp2_with fail
      refine h0.mono ?_; rintro e w3 ⟨rfl, B3⟩
      have S3 := S1.nx B3
      have n0 := S3.cell 0
      have n1 := S3.cell 1
      have n2 := S3.cell 2
      have n3 := S3.cell 3
      have n4 := S3.cell 4
      have n5 := S3.cell 5
      have C3 := bt B1 B3
      go_wp2_with fail
      refine (h1 _ (vns r1 r2 r3 r4 C3)).mono ?_; rintro e w4 ⟨rfl, B4⟩
      go_wp2_with fail
      go_ret2
      exact retBE_nil 10 (bt C3 B4)
    | true =>
      obtain ⟨g1, g2, g3, g4, g5⟩ := wB_int hw
      simp only [hw] at h1
      rw [if_pos rfl]
      dsimp only at g1 g4 g5 ⊢
      clear hw g2 g3
      generalize hv : val a1 = v0 at *
      subst g1
      clear hv
      obtain ⟨PW, HPn⟩ : ∃ PW : Nat, Hid (256 ^ s = PW) := ⟨_, rfl⟩
      unfold okS uS
      rw [HPn.out]
      have e8 : IntKind.i64.wrap (8 * (s : Int)) = 8 * (s : Int) := IntWalk.i64_in _ (by omega)
      have hPl : (digs PW).length ≤ 20 := by rw [← HPn.out]; have := digs_len_le.2 (pow_wx (s := s) (m := 17) (by omega)); omega
      cases s1 with
      | true =>
        rw [if_pos rfl, if_pos rfl]
        cases signed with
        | false =>
          rw [Bool.false_and, if_neg (by simp)]
          go_enter Tryz.func20, Tryz.ntmps20
          go_wp2_with fail
          refine h0.mono ?_; rintro e w3 ⟨rfl, B3⟩
          have S3 := S1.nx B3
          have n0 := S3.cell 0
          have n1 := S3.cell 1
          have n2 := S3.cell 2
          have n3 := S3.cell 3
          have n4 := S3.cell 4
          have n5 := S3.cell 5
          have C3 := bt B1 B3
          go_wp2_with fail
          refine (h1 _ (vns r1 r2 r3 r4 C3)).mono ?_; rintro e w4 ⟨rfl, B4⟩
          have S4 := S3.nx B4
          have p0 := S4.cell 0
          have p1 := S4.cell 1
          have p2 := S4.cell 2
          have p3 := S4.cell 3
          have p4 := S4.cell 4
          have p5 := S4.cell 5
          have C4 := bt C3 B4
          go_wp2_with fail
          have hU := up_any (some ⟨w4.heap.size, 0, none⟩) 1 1 [1] (w4.alloc (.cells #[.int .u32 (1 : Int)] 55)) (8 * s) (by omega) rfl ((RW.one w4 55 (show 1 < 4294967296 by omega)).more (by simp)) (by simp)
          rw [val_one, Nat.one_mul, ← pow8, HPn.out, show ((8 * s : Nat) : Int) = 8 * (s : Int) by omega] at hU
          have Bo := bal w4 (.cells #[.int .u32 (1 : Int)] 55)
          go_wp2_with fail
          refine hU.mono ?_; rintro e w5 ⟨A5, c5, rfl, O5, B5⟩
          have S5 := (S4.nx Bo).nx B5
          have q0 := S5.cell 0
          have q1 := S5.cell 1
          have q2 := S5.cell 2
          have q3 := S5.cell 3
          have q4 := S5.cell 4
          have q5 := S5.cell 5
          have C5 := bt (bt C4 Bo) B5
          have R1 := st r1 C5
          go_wp2_with fail
          go_ret2
          exact retBE_nil 4 (C5)
        | true =>
          rw [Bool.true_and]
          by_cases hok : v0 * 2 ≤ PW
          · rw [decide_eq_true hok, if_pos rfl]
            cases big with
            | false =>
              rw [show outB s false (PW - v0) = bytesU (PW - v0) s from rfl]
              go_enter Tryz.func20, Tryz.ntmps20
              go_wp2_with fail
              refine h0.mono ?_; rintro e w3 ⟨rfl, B3⟩
              have S3 := S1.nx B3
              have n0 := S3.cell 0
              have n1 := S3.cell 1
              have n2 := S3.cell 2
              have n3 := S3.cell 3
              have n4 := S3.cell 4
              have n5 := S3.cell 5
              have C3 := bt B1 B3
              go_wp2_with fail
              refine (h1 _ (vns r1 r2 r3 r4 C3)).mono ?_; rintro e w4 ⟨rfl, B4⟩
              have S4 := S3.nx B4
              have p0 := S4.cell 0
              have p1 := S4.cell 1
              have p2 := S4.cell 2
              have p3 := S4.cell 3
              have p4 := S4.cell 4
              have p5 := S4.cell 5
              have C4 := bt C3 B4
              go_wp2_with fail
              have hU := up_any (some ⟨w4.heap.size, 0, none⟩) 1 1 [1] (w4.alloc (.cells #[.int .u32 (1 : Int)] 55)) (8 * s) (by omega) rfl ((RW.one w4 55 (show 1 < 4294967296 by omega)).more (by simp)) (by simp)
              rw [val_one, Nat.one_mul, ← pow8, HPn.out, show ((8 * s : Nat) : Int) = 8 * (s : Int) by omega] at hU
              have Bo := bal w4 (.cells #[.int .u32 (1 : Int)] 55)
              go_wp2_with fail
              refine hU.mono ?_; rintro e w5 ⟨A5, c5, rfl, O5, B5⟩
              have S5 := (S4.nx Bo).nx B5
              have q0 := S5.cell 0
              have q1 := S5.cell 1
              have q2 := S5.cell 2
              have q3 := S5.cell 3
              have q4 := S5.cell 4
              have q5 := S5.cell 5
              have C5 := bt (bt C4 Bo) B5
              have R1 := st r1 C5
              have R15 := st r1 C5
              have hU6 := up_any A1 c1 _ (digs v0) w5 1 (by omega) rfl R15 (by omega)
              rw [val_digs, Nat.pow_one, show ((1 : Nat) : Int) = 1 from rfl] at hU6
              go_wp2_with fail
              refine hU6.mono ?_; rintro e w6 ⟨A6, c6, rfl, O6, B6⟩
              obtain ⟨z7, hz7, hc7⟩ : ∃ z, cmpN (v0 * 2) PW = z ∧ z ≤ 0 := ⟨_, rfl, by first | exact cmpN_le' (by omega) | exact cmpN_lt' (by omega) | exact cmpN_gt' (by omega) | exact cmpN_ge (by omega)⟩
              have hO7 := order_any A6 A5 c6 c5 _ _ (digs (v0 * 2)) (digs PW) w6 rfl rfl O6.rw (st O5.rw B6) (Nrm_digs _) (Nrm_digs _)
              rw [val_digs, val_digs, hz7] at hO7
              clear hz7
              go_wp2_with fail
              refine hO7.mono ?_; rintro e w7 ⟨rfl, k7, h7'⟩
              have B7 := below_dr h7'
              clear h7'
              have C7 := bt (bt C5 B6) B7
              have hL := less_any A5 A1 c5 c1 _ _ (digs PW) (digs v0) w7 rfl rfl (st (st O5.rw B6) B7) (st r1 C7) (digs_mono (by omega)) (by rw [val_digs, val_digs]; omega)
              rw [val_digs, val_digs] at hL
              go_wp2_with fail
              refine hL.mono ?_; rintro e w8 ⟨A8, c8, rfl, O8, B8⟩
              have hT := O8.rw
              have bT := hT.b32
              have CT := bt C7 B8
              go_wp2_with (at_make; refine wp_makeB _ rfl _ _ rfl .i64 .i64 _ _ s rfl rfl (by omega) (by omega) (by omega) ?_; intro wm hOm hbm hsm)
              go_loopg [62] s (fun gg iv wr => ∃ k : Nat, k ≤ s ∧ s - k = gg ∧ iv = .int .i64 (k : Int) ∧ OBT wr w8.heap.size (some ⟨w8.heap.size, 0, none⟩) s (tgt (PW - v0) s k) ∧ Below w8.heap.size w8 wr)
              case atStart => exact ⟨0, Nat.zero_le _, rfl, rfl, by rw [tgt_zero]; exact hOm, hbm⟩
              case round =>
                obtain ⟨k, hk, rfl, rfl, hO, hbel⟩ := hrel
                by_cases hk0 : k < s
                · by_cases hk1 : k / 4 < (digs (PW - v0)).length
                  · obtain ⟨b9, o9, rfl, _, hx9⟩ := (st hT hbel).at_ (by omega)
                    have x9 := hx9 (k / 4) hk1
                    have hlt9 := wd_lt bT (k / 4)
                    have e9 := word_byte bT k
                    rw [val_digs, ← byteN_nat] at e9
                    have hq9 := shr_byte e9
                    clear e9
                    have hfz := OM.frozen hO k
                    have hct := OM.cell hO (bg_getT? (l := tgt (PW - v0) s k) (k := k) (by rw [tgt_len]; exact hk0))
                    simp only [f8T] at hct
                    have hset := OM.set hO k (byteN (PW - v0) k)
                    rw [tgt_set hk0] at hset
                    simp only [f8T] at hset
                    have hbel2 := hbel.setCell (p := ⟨w8.heap.size, k, none⟩) (Nat.le_refl _) (.int .u8 ((byteN (PW - v0) k).toNat : Int))
                    have hm4 : k % 4 < 4 := Nat.mod_lt _ (by omega)
                    go_wp2_with fail
                    go_roundg (s - (k + 1))
                    case measure => omega
                    case rel => exact ⟨k + 1, by omega, rfl, by go_num, hset, hbel2⟩
                  · have hout : (PW - v0) < 256 ^ k := by
                      have h2 : (digs (PW - v0)).length ≤ k / 4 := by omega
                      have h3 := digs_len_le.1 h2
                      exact Nat.lt_of_lt_of_le h3 (by rw [pow_parts]; exact Nat.le_mul_of_pos_left _ (Nat.pow_pos (by omega)))
                    have HO := Lib.hid (tgt_out (s := s) hout)
                    clear hout
                    go_wp2_with fail
                    go_roundg (s - (k + 1))
                    case measure => omega
                    case rel => exact ⟨k + 1, by omega, rfl, by go_num, by rw [← HO.out]; exact hO, hbel⟩
                · obtain rfl : k = s := by omega
                  clear hk0
                  go_wp2_with fail
                  go_ret2
                  exact ⟨_, _, by rw [bytesU_len]; rfl, OM.base_le hO CT.size, CT.trans (hbel.mono CT.size)⟩
            | true =>
              rw [show outB s true (PW - v0) = (bytesU (PW - v0) s).reverse from rfl]
              go_enter Tryz.func20, Tryz.ntmps20
              go_wp2_with fail
              refine h0.mono ?_; rintro e w3 ⟨rfl, B3⟩
              have S3 := S1.nx B3
              have n0 := S3.cell 0
              have n1 := S3.cell 1
              have n2 := S3.cell 2
              have n3 := S3.cell 3
              have n4 := S3.cell 4
              have n5 := S3.cell 5
              have C3 := bt B1 B3
              go_wp2_with fail
              refine (h1 _ (vns r1 r2 r3 r4 C3)).mono ?_; rintro e w4 ⟨rfl, B4⟩
              have S4 := S3.nx B4
              have p0 := S4.cell 0
              have p1 := S4.cell 1
              have p2 := S4.cell 2
              have p3 := S4.cell 3
              have p4 := S4.cell 4
              have p5 := S4.cell 5
              have C4 := bt C3 B4
              go_wp2_with fail
              have hU := up_any (some ⟨w4.heap.size, 0, none⟩) 1 1 [1] (w4.alloc (.cells #[.int .u32 (1 : Int)] 55)) (8 * s) (by omega) rfl ((RW.one w4 55 (show 1 < 4294967296 by omega)).more (by simp)) (by simp)
              rw [val_one, Nat.one_mul, ← pow8, HPn.out, show ((8 * s : Nat) : Int) = 8 * (s : Int) by omega] at hU
              have Bo := bal w4 (.cells #[.int .u32 (1 : Int)] 55)
              go_wp2_with fail
              refine hU.mono ?_; rintro e w5 ⟨A5, c5, rfl, O5, B5⟩
              have S5 := (S4.nx Bo).nx B5
              have q0 := S5.cell 0
              have q1 := S5.cell 1
              have q2 := S5.cell 2
              have q3 := S5.cell 3
              have q4 := S5.cell 4
              have q5 := S5.cell 5
              have C5 := bt (bt C4 Bo) B5
              have R1 := st r1 C5
              have R15 := st r1 C5
              have hU6 := up_any A1 c1 _ (digs v0) w5 1 (by omega) rfl R15 (by omega)
              rw [val_digs, Nat.pow_one, show ((1 : Nat) : Int) = 1 from rfl] at hU6
              go_wp2_with fail
              refine hU6.mono ?_; rintro e w6 ⟨A6, c6, rfl, O6, B6⟩
              obtain ⟨z7, hz7, hc7⟩ : ∃ z, cmpN (v0 * 2) PW = z ∧ z ≤ 0 := ⟨_, rfl, by first | exact cmpN_le' (by omega) | exact cmpN_lt' (by omega) | exact cmpN_gt' (by omega) | exact cmpN_ge (by omega)⟩
              have hO7 := order_any A6 A5 c6 c5 _ _ (digs (v0 * 2)) (digs PW) w6 rfl rfl O6.rw (st O5.rw B6) (Nrm_digs _) (Nrm_digs _)
              rw [val_digs, val_digs, hz7] at hO7
              clear hz7
              go_wp2_with fail
              refine hO7.mono ?_; rintro e w7 ⟨rfl, k7, h7'⟩
              have B7 := below_dr h7'
              clear h7'
              have C7 := bt (bt C5 B6) B7
              have hL := less_any A5 A1 c5 c1 _ _ (digs PW) (digs v0) w7 rfl rfl (st (st O5.rw B6) B7) (st r1 C7) (digs_mono (by omega)) (by rw [val_digs, val_digs]; omega)
              rw [val_digs, val_digs] at hL
              go_wp2_with fail
              refine hL.mono ?_; rintro e w8 ⟨A8, c8, rfl, O8, B8⟩
              have hT := O8.rw
              have bT := hT.b32
              have CT := bt C7 B8
              go_wp2_with (at_make; refine wp_makeB _ rfl _ _ rfl .i64 .i64 _ _ s rfl rfl (by omega) (by omega) (by omega) ?_; intro wm hOm hbm hsm)
              go_loopg [62] s (fun gg iv wr => ∃ k : Nat, k ≤ s ∧ s - k = gg ∧ iv = .int .i64 (k : Int) ∧ OBT wr w8.heap.size (some ⟨w8.heap.size, 0, none⟩) s (tgt (PW - v0) s k) ∧ Below w8.heap.size w8 wr)
              case atStart => exact ⟨0, Nat.zero_le _, rfl, rfl, by rw [tgt_zero]; exact hOm, hbm⟩
              case round =>
                obtain ⟨k, hk, rfl, rfl, hO, hbel⟩ := hrel
                by_cases hk0 : k < s
                · by_cases hk1 : k / 4 < (digs (PW - v0)).length
                  · obtain ⟨b9, o9, rfl, _, hx9⟩ := (st hT hbel).at_ (by omega)
                    have x9 := hx9 (k / 4) hk1
                    have hlt9 := wd_lt bT (k / 4)
                    have e9 := word_byte bT k
                    rw [val_digs, ← byteN_nat] at e9
                    have hq9 := shr_byte e9
                    clear e9
                    have hfz := OM.frozen hO k
                    have hct := OM.cell hO (bg_getT? (l := tgt (PW - v0) s k) (k := k) (by rw [tgt_len]; exact hk0))
                    simp only [f8T] at hct
                    have hset := OM.set hO k (byteN (PW - v0) k)
                    rw [tgt_set hk0] at hset
                    simp only [f8T] at hset
                    have hbel2 := hbel.setCell (p := ⟨w8.heap.size, k, none⟩) (Nat.le_refl _) (.int .u8 ((byteN (PW - v0) k).toNat : Int))
                    have hm4 : k % 4 < 4 := Nat.mod_lt _ (by omega)
                    go_wp2_with fail
                    go_roundg (s - (k + 1))
                    case measure => omega
                    case rel => exact ⟨k + 1, by omega, rfl, by go_num, hset, hbel2⟩
                  · have hout : (PW - v0) < 256 ^ k := by
                      have h2 : (digs (PW - v0)).length ≤ k / 4 := by omega
                      have h3 := digs_len_le.1 h2
                      exact Nat.lt_of_lt_of_le h3 (by rw [pow_parts]; exact Nat.le_mul_of_pos_left _ (Nat.pow_pos (by omega)))
                    have HO := Lib.hid (tgt_out (s := s) hout)
                    clear hout
                    go_wp2_with fail
                    go_roundg (s - (k + 1))
                    case measure => omega
                    case rel => exact ⟨k + 1, by omega, rfl, by go_num, by rw [← HO.out]; exact hO, hbel⟩
                · obtain rfl : k = s := by omega
                  clear hk0
                  go_wp2_with fail
                  refine (reverse_anyT _ _ k _ wr _ (by rw [tgt_len]) hO).mono ?_; rintro e wz ⟨rfl, hOz, hbz⟩
                  go_wp2_with fail
                  go_ret2
                  exact ⟨_, _, by rw [List.length_reverse, bytesU_len]; rfl, OM.base_le hOz CT.size, CT.trans ((hbel.trans hbz).mono CT.size)⟩
          · rw [decide_eq_false hok, if_neg (by simp)]
            go_enter Tryz.func20, Tryz.ntmps20
            go_wp2_with fail
            refine h0.mono ?_; rintro e w3 ⟨rfl, B3⟩
            have S3 := S1.nx B3
            have n0 := S3.cell 0
            have n1 := S3.cell 1
            have n2 := S3.cell 2
            have n3 := S3.cell 3
            have n4 := S3.cell 4
            have n5 := S3.cell 5
            have C3 := bt B1 B3
            go_wp2_with fail
            refine (h1 _ (vns r1 r2 r3 r4 C3)).mono ?_; rintro e w4 ⟨rfl, B4⟩
            have S4 := S3.nx B4
            have p0 := S4.cell 0
            have p1 := S4.cell 1
            have p2 := S4.cell 2
            have p3 := S4.cell 3
            have p4 := S4.cell 4
            have p5 := S4.cell 5
            have C4 := bt C3 B4
            go_wp2_with fail
            have hU := up_any (some ⟨w4.heap.size, 0, none⟩) 1 1 [1] (w4.alloc (.cells #[.int .u32 (1 : Int)] 55)) (8 * s) (by omega) rfl ((RW.one w4 55 (show 1 < 4294967296 by omega)).more (by simp)) (by simp)
            rw [val_one, Nat.one_mul, ← pow8, HPn.out, show ((8 * s : Nat) : Int) = 8 * (s : Int) by omega] at hU
            have Bo := bal w4 (.cells #[.int .u32 (1 : Int)] 55)
            go_wp2_with fail
            refine hU.mono ?_; rintro e w5 ⟨A5, c5, rfl, O5, B5⟩
            have S5 := (S4.nx Bo).nx B5
            have q0 := S5.cell 0
            have q1 := S5.cell 1
            have q2 := S5.cell 2
            have q3 := S5.cell 3
            have q4 := S5.cell 4
            have q5 := S5.cell 5
            have C5 := bt (bt C4 Bo) B5
            have R1 := st r1 C5
            have R15 := st r1 C5
            have hU6 := up_any A1 c1 _ (digs v0) w5 1 (by omega) rfl R15 (by omega)
            rw [val_digs, Nat.pow_one, show ((1 : Nat) : Int) = 1 from rfl] at hU6
            go_wp2_with fail
            refine hU6.mono ?_; rintro e w6 ⟨A6, c6, rfl, O6, B6⟩
            obtain ⟨z7, hz7, hc7⟩ : ∃ z, cmpN (v0 * 2) PW = z ∧ 0 < z := ⟨_, rfl, by first | exact cmpN_le' (by omega) | exact cmpN_lt' (by omega) | exact cmpN_gt' (by omega) | exact cmpN_ge (by omega)⟩
            have hO7 := order_any A6 A5 c6 c5 _ _ (digs (v0 * 2)) (digs PW) w6 rfl rfl O6.rw (st O5.rw B6) (Nrm_digs _) (Nrm_digs _)
            rw [val_digs, val_digs, hz7] at hO7
            clear hz7
            go_wp2_with fail
            refine hO7.mono ?_; rintro e w7 ⟨rfl, k7, h7'⟩
            have B7 := below_dr h7'
            clear h7'
            go_wp2_with fail
            go_ret2
            exact retBE_nil 4 (bt (bt C5 B6) B7)
      | false =>
        rw [if_neg (show ¬ false = true by simp), if_neg (show ¬ false = true by simp)]
        cases signed with
        | true =>
          rw [Bool.true_and]
          by_cases hok : PW ≤ v0 * 2
          · rw [decide_eq_true hok, Bool.not_true, Bool.false_and, if_neg (show ¬ false = true by simp)]
            go_enter Tryz.func20, Tryz.ntmps20
            go_wp2_with fail
            refine h0.mono ?_; rintro e w3 ⟨rfl, B3⟩
            have S3 := S1.nx B3
            have n0 := S3.cell 0
            have n1 := S3.cell 1
            have n2 := S3.cell 2
            have n3 := S3.cell 3
            have n4 := S3.cell 4
            have n5 := S3.cell 5
            have C3 := bt B1 B3
            go_wp2_with fail
            refine (h1 _ (vns r1 r2 r3 r4 C3)).mono ?_; rintro e w4 ⟨rfl, B4⟩
            have S4 := S3.nx B4
            have p0 := S4.cell 0
            have p1 := S4.cell 1
            have p2 := S4.cell 2
            have p3 := S4.cell 3
            have p4 := S4.cell 4
            have p5 := S4.cell 5
            have C4 := bt C3 B4
            go_wp2_with fail
            have hU := up_any (some ⟨w4.heap.size, 0, none⟩) 1 1 [1] (w4.alloc (.cells #[.int .u32 (1 : Int)] 55)) (8 * s) (by omega) rfl ((RW.one w4 55 (show 1 < 4294967296 by omega)).more (by simp)) (by simp)
            rw [val_one, Nat.one_mul, ← pow8, HPn.out, show ((8 * s : Nat) : Int) = 8 * (s : Int) by omega] at hU
            have Bo := bal w4 (.cells #[.int .u32 (1 : Int)] 55)
            go_wp2_with fail
            refine hU.mono ?_; rintro e w5 ⟨A5, c5, rfl, O5, B5⟩
            have S5 := (S4.nx Bo).nx B5
            have q0 := S5.cell 0
            have q1 := S5.cell 1
            have q2 := S5.cell 2
            have q3 := S5.cell 3
            have q4 := S5.cell 4
            have q5 := S5.cell 5
            have C5 := bt (bt C4 Bo) B5
            have R1 := st r1 C5
            have R15 := st r1 C5
            have hU6 := up_any A1 c1 _ (digs v0) w5 1 (by omega) rfl R15 (by omega)
            rw [val_digs, Nat.pow_one, show ((1 : Nat) : Int) = 1 from rfl] at hU6
            go_wp2_with fail
            refine hU6.mono ?_; rintro e w6 ⟨A6, c6, rfl, O6, B6⟩
            obtain ⟨z7, hz7, hc7⟩ : ∃ z, cmpN (v0 * 2) PW = z ∧ 0 ≤ z := ⟨_, rfl, by first | exact cmpN_le' (by omega) | exact cmpN_lt' (by omega) | exact cmpN_gt' (by omega) | exact cmpN_ge (by omega)⟩
            have hO7 := order_any A6 A5 c6 c5 _ _ (digs (v0 * 2)) (digs PW) w6 rfl rfl O6.rw (st O5.rw B6) (Nrm_digs _) (Nrm_digs _)
            rw [val_digs, val_digs, hz7] at hO7
            clear hz7
            go_wp2_with fail
            refine hO7.mono ?_; rintro e w7 ⟨rfl, k7, h7'⟩
            have B7 := below_dr h7'
            clear h7'
            go_wp2_with fail
            go_ret2
            exact retBE_nil 4 (bt (bt C5 B6) B7)
          · rw [decide_eq_false hok, decide_eq_true (show v0 < PW by omega), if_pos (show (!false && true) = true from rfl)]
            cases big with
            | false =>
              rw [show outB s false (v0) = bytesU (v0) s from rfl]
              go_enter Tryz.func20, Tryz.ntmps20
              go_wp2_with fail
              refine h0.mono ?_; rintro e w3 ⟨rfl, B3⟩
              have S3 := S1.nx B3
              have n0 := S3.cell 0
              have n1 := S3.cell 1
              have n2 := S3.cell 2
              have n3 := S3.cell 3
              have n4 := S3.cell 4
              have n5 := S3.cell 5
              have C3 := bt B1 B3
              go_wp2_with fail
              refine (h1 _ (vns r1 r2 r3 r4 C3)).mono ?_; rintro e w4 ⟨rfl, B4⟩
              have S4 := S3.nx B4
              have p0 := S4.cell 0
              have p1 := S4.cell 1
              have p2 := S4.cell 2
              have p3 := S4.cell 3
              have p4 := S4.cell 4
              have p5 := S4.cell 5
              have C4 := bt C3 B4
              go_wp2_with fail
              have hU := up_any (some ⟨w4.heap.size, 0, none⟩) 1 1 [1] (w4.alloc (.cells #[.int .u32 (1 : Int)] 55)) (8 * s) (by omega) rfl ((RW.one w4 55 (show 1 < 4294967296 by omega)).more (by simp)) (by simp)
              rw [val_one, Nat.one_mul, ← pow8, HPn.out, show ((8 * s : Nat) : Int) = 8 * (s : Int) by omega] at hU
              have Bo := bal w4 (.cells #[.int .u32 (1 : Int)] 55)
              go_wp2_with fail
              refine hU.mono ?_; rintro e w5 ⟨A5, c5, rfl, O5, B5⟩
              have S5 := (S4.nx Bo).nx B5
              have q0 := S5.cell 0
              have q1 := S5.cell 1
              have q2 := S5.cell 2
              have q3 := S5.cell 3
              have q4 := S5.cell 4
              have q5 := S5.cell 5
              have C5 := bt (bt C4 Bo) B5
              have R1 := st r1 C5
              have R15 := st r1 C5
              have hU6 := up_any A1 c1 _ (digs v0) w5 1 (by omega) rfl R15 (by omega)
              rw [val_digs, Nat.pow_one, show ((1 : Nat) : Int) = 1 from rfl] at hU6
              go_wp2_with fail
              refine hU6.mono ?_; rintro e w6 ⟨A6, c6, rfl, O6, B6⟩
              obtain ⟨z7, hz7, hc7⟩ : ∃ z, cmpN (v0 * 2) PW = z ∧ z < 0 := ⟨_, rfl, by first | exact cmpN_le' (by omega) | exact cmpN_lt' (by omega) | exact cmpN_gt' (by omega) | exact cmpN_ge (by omega)⟩
              have hO7 := order_any A6 A5 c6 c5 _ _ (digs (v0 * 2)) (digs PW) w6 rfl rfl O6.rw (st O5.rw B6) (Nrm_digs _) (Nrm_digs _)
              rw [val_digs, val_digs, hz7] at hO7
              clear hz7
              go_wp2_with fail
              refine hO7.mono ?_; rintro e w7 ⟨rfl, k7, h7'⟩
              have B7 := below_dr h7'
              clear h7'
              have C7 := bt (bt C5 B6) B7
              obtain ⟨z8, hz8, hc8⟩ : ∃ z, cmpN (v0) PW = z ∧ z < 0 := ⟨_, rfl, by first | exact cmpN_le' (by omega) | exact cmpN_lt' (by omega) | exact cmpN_gt' (by omega) | exact cmpN_ge (by omega)⟩
              have hO8 := order_any A1 A5 c1 c5 _ _ (digs (v0)) (digs PW) w7 rfl rfl (st r1 C7) (st (st O5.rw B6) B7) (Nrm_digs _) (Nrm_digs _)
              rw [val_digs, val_digs, hz8] at hO8
              clear hz8
              go_wp2_with fail
              refine hO8.mono ?_; rintro e w8 ⟨rfl, k8, h8'⟩
              have B8 := below_dr h8'
              clear h8'
              have hT := st r1 (bt C7 B8)
              have bT := hT.b32
              have CT := bt C7 B8
              go_wp2_with (at_make; refine wp_makeB _ rfl _ _ rfl .i64 .i64 _ _ s rfl rfl (by omega) (by omega) (by omega) ?_; intro wm hOm hbm hsm)
              go_loopg [62] s (fun gg iv wr => ∃ k : Nat, k ≤ s ∧ s - k = gg ∧ iv = .int .i64 (k : Int) ∧ OBT wr w8.heap.size (some ⟨w8.heap.size, 0, none⟩) s (tgt (v0) s k) ∧ Below w8.heap.size w8 wr)
              case atStart => exact ⟨0, Nat.zero_le _, rfl, rfl, by rw [tgt_zero]; exact hOm, hbm⟩
              case round =>
                obtain ⟨k, hk, rfl, rfl, hO, hbel⟩ := hrel
                by_cases hk0 : k < s
                · by_cases hk1 : k / 4 < (digs (v0)).length
                  · obtain ⟨b9, o9, rfl, _, hx9⟩ := (st hT hbel).at_ (by omega)
                    have x9 := hx9 (k / 4) hk1
                    have hlt9 := wd_lt bT (k / 4)
                    have e9 := word_byte bT k
                    rw [val_digs, ← byteN_nat] at e9
                    have hq9 := shr_byte e9
                    clear e9
                    have hfz := OM.frozen hO k
                    have hct := OM.cell hO (bg_getT? (l := tgt (v0) s k) (k := k) (by rw [tgt_len]; exact hk0))
                    simp only [f8T] at hct
                    have hset := OM.set hO k (byteN (v0) k)
                    rw [tgt_set hk0] at hset
                    simp only [f8T] at hset
                    have hbel2 := hbel.setCell (p := ⟨w8.heap.size, k, none⟩) (Nat.le_refl _) (.int .u8 ((byteN (v0) k).toNat : Int))
                    have hm4 : k % 4 < 4 := Nat.mod_lt _ (by omega)
                    go_wp2_with fail
                    go_roundg (s - (k + 1))
                    case measure => omega
                    case rel => exact ⟨k + 1, by omega, rfl, by go_num, hset, hbel2⟩
                  · have hout : (v0) < 256 ^ k := by
                      have h2 : (digs (v0)).length ≤ k / 4 := by omega
                      have h3 := digs_len_le.1 h2
                      exact Nat.lt_of_lt_of_le h3 (by rw [pow_parts]; exact Nat.le_mul_of_pos_left _ (Nat.pow_pos (by omega)))
                    have HO := Lib.hid (tgt_out (s := s) hout)
                    clear hout
                    go_wp2_with fail
                    go_roundg (s - (k + 1))
                    case measure => omega
                    case rel => exact ⟨k + 1, by omega, rfl, by go_num, by rw [← HO.out]; exact hO, hbel⟩
                · obtain rfl : k = s := by omega
                  clear hk0
                  go_wp2_with fail
                  go_ret2
                  exact ⟨_, _, by rw [bytesU_len]; rfl, OM.base_le hO CT.size, CT.trans (hbel.mono CT.size)⟩
            | true =>
              rw [show outB s true (v0) = (bytesU (v0) s).reverse from rfl]
              go_enter Tryz.func20, Tryz.ntmps20
              go_wp2_with fail
              refine h0.mono ?_; rintro e w3 ⟨rfl, B3⟩
              have S3 := S1.nx B3
              have n0 := S3.cell 0
              have n1 := S3.cell 1
              have n2 := S3.cell 2
              have n3 := S3.cell 3
              have n4 := S3.cell 4
              have n5 := S3.cell 5
              have C3 := bt B1 B3
              go_wp2_with fail
              refine (h1 _ (vns r1 r2 r3 r4 C3)).mono ?_; rintro e w4 ⟨rfl, B4⟩
              have S4 := S3.nx B4
              have p0 := S4.cell 0
              have p1 := S4.cell 1
              have p2 := S4.cell 2
              have p3 := S4.cell 3
              have p4 := S4.cell 4
              have p5 := S4.cell 5
              have C4 := bt C3 B4
              go_wp2_with fail
              have hU := up_any (some ⟨w4.heap.size, 0, none⟩) 1 1 [1] (w4.alloc (.cells #[.int .u32 (1 : Int)] 55)) (8 * s) (by omega) rfl ((RW.one w4 55 (show 1 < 4294967296 by omega)).more (by simp)) (by simp)
              rw [val_one, Nat.one_mul, ← pow8, HPn.out, show ((8 * s : Nat) : Int) = 8 * (s : Int) by omega] at hU
              have Bo := bal w4 (.cells #[.int .u32 (1 : Int)] 55)
              go_wp2_with fail
              refine hU.mono ?_; rintro e w5 ⟨A5, c5, rfl, O5, B5⟩
              have S5 := (S4.nx Bo).nx B5
              have q0 := S5.cell 0
              have q1 := S5.cell 1
              have q2 := S5.cell 2
              have q3 := S5.cell 3
              have q4 := S5.cell 4
              have q5 := S5.cell 5
              have C5 := bt (bt C4 Bo) B5
              have R1 := st r1 C5
              have R15 := st r1 C5
              have hU6 := up_any A1 c1 _ (digs v0) w5 1 (by omega) rfl R15 (by omega)
              rw [val_digs, Nat.pow_one, show ((1 : Nat) : Int) = 1 from rfl] at hU6
              go_wp2_with fail
              refine hU6.mono ?_; rintro e w6 ⟨A6, c6, rfl, O6, B6⟩
              obtain ⟨z7, hz7, hc7⟩ : ∃ z, cmpN (v0 * 2) PW = z ∧ z < 0 := ⟨_, rfl, by first | exact cmpN_le' (by omega) | exact cmpN_lt' (by omega) | exact cmpN_gt' (by omega) | exact cmpN_ge (by omega)⟩
              have hO7 := order_any A6 A5 c6 c5 _ _ (digs (v0 * 2)) (digs PW) w6 rfl rfl O6.rw (st O5.rw B6) (Nrm_digs _) (Nrm_digs _)
              rw [val_digs, val_digs, hz7] at hO7
              clear hz7
              go_wp2_with fail
              refine hO7.mono ?_; rintro e w7 ⟨rfl, k7, h7'⟩
              have B7 := below_dr h7'
              clear h7'
              have C7 := bt (bt C5 B6) B7
              obtain ⟨z8, hz8, hc8⟩ : ∃ z, cmpN (v0) PW = z ∧ z < 0 := ⟨_, rfl, by first | exact cmpN_le' (by omega) | exact cmpN_lt' (by omega) | exact cmpN_gt' (by omega) | exact cmpN_ge (by omega)⟩
              have hO8 := order_any A1 A5 c1 c5 _ _ (digs (v0)) (digs PW) w7 rfl rfl (st r1 C7) (st (st O5.rw B6) B7) (Nrm_digs _) (Nrm_digs _)
              rw [val_digs, val_digs, hz8] at hO8
              clear hz8
              go_wp2_with fail
              refine hO8.mono ?_; rintro e w8 ⟨rfl, k8, h8'⟩
              have B8 := below_dr h8'
              clear h8'
              have hT := st r1 (bt C7 B8)
              have bT := hT.b32
              have CT := bt C7 B8
              go_wp2_with (at_make; refine wp_makeB _ rfl _ _ rfl .i64 .i64 _ _ s rfl rfl (by omega) (by omega) (by omega) ?_; intro wm hOm hbm hsm)
              go_loopg [62] s (fun gg iv wr => ∃ k : Nat, k ≤ s ∧ s - k = gg ∧ iv = .int .i64 (k : Int) ∧ OBT wr w8.heap.size (some ⟨w8.heap.size, 0, none⟩) s (tgt (v0) s k) ∧ Below w8.heap.size w8 wr)
              case atStart => exact ⟨0, Nat.zero_le _, rfl, rfl, by rw [tgt_zero]; exact hOm, hbm⟩
              case round =>
                obtain ⟨k, hk, rfl, rfl, hO, hbel⟩ := hrel
                by_cases hk0 : k < s
                · by_cases hk1 : k / 4 < (digs (v0)).length
                  · obtain ⟨b9, o9, rfl, _, hx9⟩ := (st hT hbel).at_ (by omega)
                    have x9 := hx9 (k / 4) hk1
                    have hlt9 := wd_lt bT (k / 4)
                    have e9 := word_byte bT k
                    rw [val_digs, ← byteN_nat] at e9
                    have hq9 := shr_byte e9
                    clear e9
                    have hfz := OM.frozen hO k
                    have hct := OM.cell hO (bg_getT? (l := tgt (v0) s k) (k := k) (by rw [tgt_len]; exact hk0))
                    simp only [f8T] at hct
                    have hset := OM.set hO k (byteN (v0) k)
                    rw [tgt_set hk0] at hset
                    simp only [f8T] at hset
                    have hbel2 := hbel.setCell (p := ⟨w8.heap.size, k, none⟩) (Nat.le_refl _) (.int .u8 ((byteN (v0) k).toNat : Int))
                    have hm4 : k % 4 < 4 := Nat.mod_lt _ (by omega)
                    go_wp2_with fail
                    go_roundg (s - (k + 1))
                    case measure => omega
                    case rel => exact ⟨k + 1, by omega, rfl, by go_num, hset, hbel2⟩
                  · have hout : (v0) < 256 ^ k := by
                      have h2 : (digs (v0)).length ≤ k / 4 := by omega
                      have h3 := digs_len_le.1 h2
                      exact Nat.lt_of_lt_of_le h3 (by rw [pow_parts]; exact Nat.le_mul_of_pos_left _ (Nat.pow_pos (by omega)))
                    have HO := Lib.hid (tgt_out (s := s) hout)
                    clear hout
                    go_wp2_with fail
                    go_roundg (s - (k + 1))
                    case measure => omega
                    case rel => exact ⟨k + 1, by omega, rfl, by go_num, by rw [← HO.out]; exact hO, hbel⟩
                · obtain rfl : k = s := by omega
                  clear hk0
                  go_wp2_with fail
                  refine (reverse_anyT _ _ k _ wr _ (by rw [tgt_len]) hO).mono ?_; rintro e wz ⟨rfl, hOz, hbz⟩
                  go_wp2_with fail
                  go_ret2
                  exact ⟨_, _, by rw [List.length_reverse, bytesU_len]; rfl, OM.base_le hOz CT.size, CT.trans ((hbel.trans hbz).mono CT.size)⟩
        | false =>
          rw [Bool.false_and, Bool.not_false, Bool.true_and]
          by_cases hok : v0 < PW
          · rw [decide_eq_true hok, if_pos rfl]
            cases big with
            | false =>
              rw [show outB s false (v0) = bytesU (v0) s from rfl]
              go_enter Tryz.func20, Tryz.ntmps20
              go_wp2_with fail
              refine h0.mono ?_; rintro e w3 ⟨rfl, B3⟩
              have S3 := S1.nx B3
              have n0 := S3.cell 0
              have n1 := S3.cell 1
              have n2 := S3.cell 2
              have n3 := S3.cell 3
              have n4 := S3.cell 4
              have n5 := S3.cell 5
              have C3 := bt B1 B3
              go_wp2_with fail
              refine (h1 _ (vns r1 r2 r3 r4 C3)).mono ?_; rintro e w4 ⟨rfl, B4⟩
              have S4 := S3.nx B4
              have p0 := S4.cell 0
              have p1 := S4.cell 1
              have p2 := S4.cell 2
              have p3 := S4.cell 3
              have p4 := S4.cell 4
              have p5 := S4.cell 5
              have C4 := bt C3 B4
              go_wp2_with fail
              have hU := up_any (some ⟨w4.heap.size, 0, none⟩) 1 1 [1] (w4.alloc (.cells #[.int .u32 (1 : Int)] 55)) (8 * s) (by omega) rfl ((RW.one w4 55 (show 1 < 4294967296 by omega)).more (by simp)) (by simp)
              rw [val_one, Nat.one_mul, ← pow8, HPn.out, show ((8 * s : Nat) : Int) = 8 * (s : Int) by omega] at hU
              have Bo := bal w4 (.cells #[.int .u32 (1 : Int)] 55)
              go_wp2_with fail
              refine hU.mono ?_; rintro e w5 ⟨A5, c5, rfl, O5, B5⟩
              have S5 := (S4.nx Bo).nx B5
              have q0 := S5.cell 0
              have q1 := S5.cell 1
              have q2 := S5.cell 2
              have q3 := S5.cell 3
              have q4 := S5.cell 4
              have q5 := S5.cell 5
              have C5 := bt (bt C4 Bo) B5
              have R1 := st r1 C5
              have R15 := st r1 C5
              obtain ⟨z8, hz8, hc8⟩ : ∃ z, cmpN (v0) PW = z ∧ z < 0 := ⟨_, rfl, by first | exact cmpN_le' (by omega) | exact cmpN_lt' (by omega) | exact cmpN_gt' (by omega) | exact cmpN_ge (by omega)⟩
              have hO8 := order_any A1 A5 c1 c5 _ _ (digs (v0)) (digs PW) w5 rfl rfl R15 O5.rw (Nrm_digs _) (Nrm_digs _)
              rw [val_digs, val_digs, hz8] at hO8
              clear hz8
              go_wp2_with fail
              refine hO8.mono ?_; rintro e w8 ⟨rfl, k8, h8'⟩
              have B8 := below_dr h8'
              clear h8'
              have hT := st r1 (bt C5 B8)
              have bT := hT.b32
              have CT := bt C5 B8
              go_wp2_with (at_make; refine wp_makeB _ rfl _ _ rfl .i64 .i64 _ _ s rfl rfl (by omega) (by omega) (by omega) ?_; intro wm hOm hbm hsm)
              go_loopg [62] s (fun gg iv wr => ∃ k : Nat, k ≤ s ∧ s - k = gg ∧ iv = .int .i64 (k : Int) ∧ OBT wr w8.heap.size (some ⟨w8.heap.size, 0, none⟩) s (tgt (v0) s k) ∧ Below w8.heap.size w8 wr)
              case atStart => exact ⟨0, Nat.zero_le _, rfl, rfl, by rw [tgt_zero]; exact hOm, hbm⟩
              case round =>
                obtain ⟨k, hk, rfl, rfl, hO, hbel⟩ := hrel
                by_cases hk0 : k < s
                · by_cases hk1 : k / 4 < (digs (v0)).length
                  · obtain ⟨b9, o9, rfl, _, hx9⟩ := (st hT hbel).at_ (by omega)
                    have x9 := hx9 (k / 4) hk1
                    have hlt9 := wd_lt bT (k / 4)
                    have e9 := word_byte bT k
                    rw [val_digs, ← byteN_nat] at e9
                    have hq9 := shr_byte e9
                    clear e9
                    have hfz := OM.frozen hO k
                    have hct := OM.cell hO (bg_getT? (l := tgt (v0) s k) (k := k) (by rw [tgt_len]; exact hk0))
                    simp only [f8T] at hct
                    have hset := OM.set hO k (byteN (v0) k)
                    rw [tgt_set hk0] at hset
                    simp only [f8T] at hset
                    have hbel2 := hbel.setCell (p := ⟨w8.heap.size, k, none⟩) (Nat.le_refl _) (.int .u8 ((byteN (v0) k).toNat : Int))
                    have hm4 : k % 4 < 4 := Nat.mod_lt _ (by omega)
                    go_wp2_with fail
                    go_roundg (s - (k + 1))
                    case measure => omega
                    case rel => exact ⟨k + 1, by omega, rfl, by go_num, hset, hbel2⟩
                  · have hout : (v0) < 256 ^ k := by
                      have h2 : (digs (v0)).length ≤ k / 4 := by omega
                      have h3 := digs_len_le.1 h2
                      exact Nat.lt_of_lt_of_le h3 (by rw [pow_parts]; exact Nat.le_mul_of_pos_left _ (Nat.pow_pos (by omega)))
                    have HO := Lib.hid (tgt_out (s := s) hout)
                    clear hout
                    go_wp2_with fail
                    go_roundg (s - (k + 1))
                    case measure => omega
                    case rel => exact ⟨k + 1, by omega, rfl, by go_num, by rw [← HO.out]; exact hO, hbel⟩
                · obtain rfl : k = s := by omega
                  clear hk0
                  go_wp2_with fail
                  go_ret2
                  exact ⟨_, _, by rw [bytesU_len]; rfl, OM.base_le hO CT.size, CT.trans (hbel.mono CT.size)⟩
            | true =>
              rw [show outB s true (v0) = (bytesU (v0) s).reverse from rfl]
              go_enter Tryz.func20, Tryz.ntmps20
              go_wp2_with fail
              refine h0.mono ?_; rintro e w3 ⟨rfl, B3⟩
              have S3 := S1.nx B3
              have n0 := S3.cell 0
              have n1 := S3.cell 1
              have n2 := S3.cell 2
              have n3 := S3.cell 3
              have n4 := S3.cell 4
              have n5 := S3.cell 5
              have C3 := bt B1 B3
              go_wp2_with fail
              refine (h1 _ (vns r1 r2 r3 r4 C3)).mono ?_; rintro e w4 ⟨rfl, B4⟩
              have S4 := S3.nx B4
              have p0 := S4.cell 0
              have p1 := S4.cell 1
              have p2 := S4.cell 2
              have p3 := S4.cell 3
              have p4 := S4.cell 4
              have p5 := S4.cell 5
              have C4 := bt C3 B4
              go_wp2_with fail
              have hU := up_any (some ⟨w4.heap.size, 0, none⟩) 1 1 [1] (w4.alloc (.cells #[.int .u32 (1 : Int)] 55)) (8 * s) (by omega) rfl ((RW.one w4 55 (show 1 < 4294967296 by omega)).more (by simp)) (by simp)
              rw [val_one, Nat.one_mul, ← pow8, HPn.out, show ((8 * s : Nat) : Int) = 8 * (s : Int) by omega] at hU
              have Bo := bal w4 (.cells #[.int .u32 (1 : Int)] 55)
              go_wp2_with fail
              refine hU.mono ?_; rintro e w5 ⟨A5, c5, rfl, O5, B5⟩
              have S5 := (S4.nx Bo).nx B5
              have q0 := S5.cell 0
              have q1 := S5.cell 1
              have q2 := S5.cell 2
              have q3 := S5.cell 3
              have q4 := S5.cell 4
              have q5 := S5.cell 5
              have C5 := bt (bt C4 Bo) B5
              have R1 := st r1 C5
              have R15 := st r1 C5
              obtain ⟨z8, hz8, hc8⟩ : ∃ z, cmpN (v0) PW = z ∧ z < 0 := ⟨_, rfl, by first | exact cmpN_le' (by omega) | exact cmpN_lt' (by omega) | exact cmpN_gt' (by omega) | exact cmpN_ge (by omega)⟩
              have hO8 := order_any A1 A5 c1 c5 _ _ (digs (v0)) (digs PW) w5 rfl rfl R15 O5.rw (Nrm_digs _) (Nrm_digs _)
              rw [val_digs, val_digs, hz8] at hO8
              clear hz8
              go_wp2_with fail
              refine hO8.mono ?_; rintro e w8 ⟨rfl, k8, h8'⟩
              have B8 := below_dr h8'
              clear h8'
              have hT := st r1 (bt C5 B8)
              have bT := hT.b32
              have CT := bt C5 B8
              go_wp2_with (at_make; refine wp_makeB _ rfl _ _ rfl .i64 .i64 _ _ s rfl rfl (by omega) (by omega) (by omega) ?_; intro wm hOm hbm hsm)
              go_loopg [62] s (fun gg iv wr => ∃ k : Nat, k ≤ s ∧ s - k = gg ∧ iv = .int .i64 (k : Int) ∧ OBT wr w8.heap.size (some ⟨w8.heap.size, 0, none⟩) s (tgt (v0) s k) ∧ Below w8.heap.size w8 wr)
              case atStart => exact ⟨0, Nat.zero_le _, rfl, rfl, by rw [tgt_zero]; exact hOm, hbm⟩
              case round =>
                obtain ⟨k, hk, rfl, rfl, hO, hbel⟩ := hrel
                by_cases hk0 : k < s
                · by_cases hk1 : k / 4 < (digs (v0)).length
                  · obtain ⟨b9, o9, rfl, _, hx9⟩ := (st hT hbel).at_ (by omega)
                    have x9 := hx9 (k / 4) hk1
                    have hlt9 := wd_lt bT (k / 4)
                    have e9 := word_byte bT k
                    rw [val_digs, ← byteN_nat] at e9
                    have hq9 := shr_byte e9
                    clear e9
                    have hfz := OM.frozen hO k
                    have hct := OM.cell hO (bg_getT? (l := tgt (v0) s k) (k := k) (by rw [tgt_len]; exact hk0))
                    simp only [f8T] at hct
                    have hset := OM.set hO k (byteN (v0) k)
                    rw [tgt_set hk0] at hset
                    simp only [f8T] at hset
                    have hbel2 := hbel.setCell (p := ⟨w8.heap.size, k, none⟩) (Nat.le_refl _) (.int .u8 ((byteN (v0) k).toNat : Int))
                    have hm4 : k % 4 < 4 := Nat.mod_lt _ (by omega)
                    go_wp2_with fail
                    go_roundg (s - (k + 1))
                    case measure => omega
                    case rel => exact ⟨k + 1, by omega, rfl, by go_num, hset, hbel2⟩
                  · have hout : (v0) < 256 ^ k := by
                      have h2 : (digs (v0)).length ≤ k / 4 := by omega
                      have h3 := digs_len_le.1 h2
                      exact Nat.lt_of_lt_of_le h3 (by rw [pow_parts]; exact Nat.le_mul_of_pos_left _ (Nat.pow_pos (by omega)))
                    have HO := Lib.hid (tgt_out (s := s) hout)
                    clear hout
                    go_wp2_with fail
                    go_roundg (s - (k + 1))
                    case measure => omega
                    case rel => exact ⟨k + 1, by omega, rfl, by go_num, by rw [← HO.out]; exact hO, hbel⟩
                · obtain rfl : k = s := by omega
                  clear hk0
                  go_wp2_with fail
                  refine (reverse_anyT _ _ k _ wr _ (by rw [tgt_len]) hO).mono ?_; rintro e wz ⟨rfl, hOz, hbz⟩
                  go_wp2_with fail
                  go_ret2
                  exact ⟨_, _, by rw [List.length_reverse, bytesU_len]; rfl, OM.base_le hOz CT.size, CT.trans ((hbel.trans hbz).mono CT.size)⟩
          · rw [decide_eq_false hok, if_neg (show ¬ false = true by simp)]
            go_enter Tryz.func20, Tryz.ntmps20
            go_wp2_with fail
            refine h0.mono ?_; rintro e w3 ⟨rfl, B3⟩
            have S3 := S1.nx B3
            have n0 := S3.cell 0
            have n1 := S3.cell 1
            have n2 := S3.cell 2
            have n3 := S3.cell 3
            have n4 := S3.cell 4
            have n5 := S3.cell 5
            have C3 := bt B1 B3
            go_wp2_with fail
            refine (h1 _ (vns r1 r2 r3 r4 C3)).mono ?_; rintro e w4 ⟨rfl, B4⟩
            have S4 := S3.nx B4
            have p0 := S4.cell 0
            have p1 := S4.cell 1
            have p2 := S4.cell 2
            have p3 := S4.cell 3
            have p4 := S4.cell 4
            have p5 := S4.cell 5
            have C4 := bt C3 B4
            go_wp2_with fail
            have hU := up_any (some ⟨w4.heap.size, 0, none⟩) 1 1 [1] (w4.alloc (.cells #[.int .u32 (1 : Int)] 55)) (8 * s) (by omega) rfl ((RW.one w4 55 (show 1 < 4294967296 by omega)).more (by simp)) (by simp)
            rw [val_one, Nat.one_mul, ← pow8, HPn.out, show ((8 * s : Nat) : Int) = 8 * (s : Int) by omega] at hU
            have Bo := bal w4 (.cells #[.int .u32 (1 : Int)] 55)
            go_wp2_with fail
            refine hU.mono ?_; rintro e w5 ⟨A5, c5, rfl, O5, B5⟩
            have S5 := (S4.nx Bo).nx B5
            have q0 := S5.cell 0
            have q1 := S5.cell 1
            have q2 := S5.cell 2
            have q3 := S5.cell 3
            have q4 := S5.cell 4
            have q5 := S5.cell 5
            have C5 := bt (bt C4 Bo) B5
            have R1 := st r1 C5
            have R15 := st r1 C5
            obtain ⟨z8, hz8, hc8⟩ : ∃ z, cmpN (v0) PW = z ∧ 0 ≤ z := ⟨_, rfl, by first | exact cmpN_le' (by omega) | exact cmpN_lt' (by omega) | exact cmpN_gt' (by omega) | exact cmpN_ge (by omega)⟩
            have hO8 := order_any A1 A5 c1 c5 _ _ (digs (v0)) (digs PW) w5 rfl rfl R15 O5.rw (Nrm_digs _) (Nrm_digs _)
            rw [val_digs, val_digs, hz8] at hO8
            clear hz8
            go_wp2_with fail
            refine hO8.mono ?_; rintro e w8 ⟨rfl, k8, h8'⟩
            have B8 := below_dr h8'
            clear h8'
            go_wp2_with fail
            go_ret2
            exact retBE_nil 4 (bt C5 B8)


/-- bytes with others put in at a place -/
def putL (l c : List UInt8) (a : Nat) : List UInt8 := l.take a ++ (c ++ l.drop (a + c.length))
def putA (l : List UInt8) (at_ size : Int) (big signed : Bool) (r i : Rw) : List UInt8 × Int :=
  if inB l.length at_ size = true then (if (oneA size.toNat big signed r i).2 = 0 then (putL l (oneA size.toNat big signed r i).1 at_.toNat, 0) else ([], (oneA size.toNat big signed r i).2)) else ([], 1)
theorem oneA_len {s : Nat} {big signed : Bool} {r i : Rw} (h : (oneA s big signed r i).2 = 0) : (oneA s big signed r i).1.length = s := by
  unfold oneA at h ⊢
  split at h
  · rename_i h1
    rw [if_pos h1]
    split at h
    · rename_i h2
      rw [if_pos h2]
      split at h
      · rename_i h3
        rw [if_pos h3]
        exact outB_len _ _ _
      · simp at h
    · simp at h
  · simp at h


set_option maxRecDepth 100000 in
set_option maxHeartbeats 8000000 in
theorem put_any (A : Option Addr) (c n : Nat) (l : List UInt8) (at_ size : Int) (big signed : Bool) (v : Value) (r i : Rw) (w : World) (hn : n = l.length) (h : RBT w w.heap.size A c l) (hv : VN w w.heap.size v r i)
    (a0 : -9223372036854775808 ≤ at_) (a1' : at_ ≤ 9223372036854775807) (s0 : -9223372036854775808 ≤ size) (s1' : size ≤ 9223372036854775807) :
    Calls Tryz.prog 6 #[.slice A n c, .int .i64 at_, .int .i64 size, .bool big, .bool signed, v] w (RetBE w (putA l at_ size big signed r i)) := by
  subst hn
  have hbig := h.big
  obtain ⟨s1, a1, b1⟩ := r
  obtain ⟨s2, a2, b2⟩ := i
  obtain ⟨A1, c1, D1, d1, A2, c2, D2, d2, rfl, r1, r2, r3, r4⟩ := hv
  dsimp only at r1 r2 r3 r4 ⊢
  have B1 := bal w (.cells #[.bool s1, .slice A1 a1.length c1, .slice D1 b1.length d1, .bool s2, .slice A2 a2.length c2, .slice D2 b2.length d2] 26)
  have S1 := SB.new w [.bool s1, .slice A1 a1.length c1, .slice D1 b1.length d1, .bool s2, .slice A2 a2.length c2, .slice D2 b2.length d2] 26
  have hin := in_any A c l.length at_ size (w.alloc (.cells #[.bool s1, .slice A1 a1.length c1, .slice D1 b1.length d1, .bool s2, .slice A2 a2.length c2, .slice D2 b2.length d2] 26)) hbig a0 a1' s0 s1'
  unfold putA
  cases hi : inB l.length at_ size with
  | false =>
    rw [hi] at hin
    rw [if_neg (by simp)]
    clear hi
    go_enter Tryz.func6, Tryz.ntmps6
    go_wp2_with fail
    refine hin.mono ?_; rintro e w' ⟨rfl, rfl⟩
    go_wp2_with fail
    go_ret2
    exact retBE_nil 1 B1
  | true =>
    rw [hi] at hin
    unfold inB at hi
    rw [decide_eq_true_eq] at hi
    obtain ⟨a, rfl⟩ := Int.eq_ofNat_of_zero_le hi.2.2.1
    obtain ⟨s, rfl⟩ := Int.eq_ofNat_of_zero_le (show 0 ≤ size by omega)
    obtain ⟨i1, i2, _, i4⟩ := hi
    rw [Int.toNat_natCast, Int.toNat_natCast, if_pos rfl]
    have hsl : a + s ≤ l.length := by omega
    have hs1 : 1 ≤ s := by omega
    have hs64 : s ≤ 64 := by omega
    clear i1 i2 i4
    have hone := one_any s big signed (.agg #[.bool s1, .slice A1 a1.length c1, .slice D1 b1.length d1, .bool s2, .slice A2 a2.length c2, .slice D2 b2.length d2]) ⟨s1, a1, b1⟩ ⟨s2, a2, b2⟩ _ hs1 hs64 (vns r1 r2 r3 r4 B1)
    have hol := oneA_len (s := s) (big := big) (signed := signed) (r := ⟨s1, a1, b1⟩) (i := ⟨s2, a2, b2⟩)
    generalize oneA s big signed ⟨s1, a1, b1⟩ ⟨s2, a2, b2⟩ = x at *
    obtain ⟨cb, k⟩ := x
    dsimp only at hol ⊢
    have m0 := S1.cell 0
    have m1 := S1.cell 1
    have m2 := S1.cell 2
    have m3 := S1.cell 3
    have m4 := S1.cell 4
    have m5 := S1.cell 5
    by_cases hk : k = 0
    · subst hk
      have hcl := hol rfl
      rw [if_pos rfl]
      have HCL := Lib.hid hcl
      clear hol hcl
      go_enter Tryz.func6, Tryz.ntmps6
      go_wp2_with fail
      refine hin.mono ?_; rintro e w' ⟨rfl, rfl⟩
      go_wp2_with fail
      refine hone.mono ?_; rintro e w3 ⟨A3, c3, rfl, O3, B3⟩
      dsimp only at O3
      have C3 := bt B1 B3
      have hcl := cloneB_any A c _ l w3 rfl (RM.step h C3 C3.size)
      go_wp2_with fail
      refine hcl.mono ?_; rintro e w4 ⟨A4, c4, rfl, O4, B4⟩
      rcases OM.form O4 with ⟨_, _, he⟩ | ⟨g4, rfl, hg4, _, hlc4⟩
      · exact absurd (by rw [he]; rfl) (show ¬ l.length = 0 by omega)
      have hck : ¬ c4 = a := by omega
      have R3 := RM.step (OM.rl O3) B4 B4.size
      go_wp2_with (refine wp_copyB _ rfl _ _ rfl g4 a (l.length - a) (c4 - a) w3.heap.size c4 l O4 rfl A3 c3 w4.heap.size _ cb rfl rfl R3 (by have := HCL.out; omega) (by have := HCL.out; omega) (by have := HCL.out; omega) ?_; intro w5 O5 B5)
      go_ret2
      have hpl : (putL l cb a).length = l.length := by unfold putL; simp; have := HCL.out; omega
      exact ⟨_, _, by rw [hpl]; rfl, OM.base_le O5 C3.size, C3.trans ((B4.trans B5).mono C3.size)⟩
    · have hkb : (k == 0) = false := beq_eq_false_iff_ne.2 hk
      rw [if_neg hk]
      clear hol hk
      go_enter Tryz.func6, Tryz.ntmps6
      go_wp2_with fail
      refine hin.mono ?_; rintro e w' ⟨rfl, rfl⟩
      go_wp2_with fail
      refine hone.mono ?_; rintro e w3 ⟨A3, c3, rfl, O3, B3⟩
      go_wp2_with fail
      go_ret2
      exact retBE_nil k (bt B1 B3)

end Go.Proofs.YtbgggepdlkbpoaaGreatDoor
