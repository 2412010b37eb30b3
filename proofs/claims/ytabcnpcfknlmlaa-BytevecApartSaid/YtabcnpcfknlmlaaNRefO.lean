/- The walk of the reference's Over, bit by bit. -/
import Derived.Test.YtabcnpcfknlmlaaNRef
namespace Go.Proofs.Ytabcnpcfknlmlaa
open Go.RowKit

set_option maxRecDepth 100000 in
set_option maxHeartbeats 4000000 in
theorem rover_any (A D : Option Addr) (c d n m : Nat) (a b : List Nat) (w : World) (hn : n = a.length) (hm : m = b.length) (ha : RW w w.heap.size A c a) (hb : RW w w.heap.size D d b) (nb : Nrm b) (h0 : val b ≠ 0)
    (hla : a.length ≤ 1000000) (hlb : b.length ≤ 1000000) :
    Calls Try.prog 70 #[.slice A n c, .slice D m d] w (RetQ w (val a / val b) (val a % val b)) := by
  subst hn hm
  have ba := ha.b32
  have bb := hb.b32
  have hbl : blen (val a) ≤ 32 * a.length := blen_le.2 (val_lt2 ba)
  have hsz := fun w' h => rsize_any A c _ a w' rfl h
  have hNb := Lib.hid (blen_lt (val a))
  obtain ⟨N, hN⟩ : ∃ N, N = val a := ⟨_, rfl⟩
  obtain ⟨V, hV⟩ : ∃ V, V = val b := ⟨_, rfl⟩
  rw [← hN] at hsz hbl hNb
  rw [← hV] at h0
  rw [← hN, ← hV]
  have hst : Hid (N / 2 ^ blen N = 0) := Nat.div_eq_of_lt hNb.out
  have hVw : V < Wp b.length := by rw [hV]; exact val_lt bb
  have hbn : digs V = b := by rw [hV]; exact digs_val bb nb
  generalize blen N = bn at *
  have HN := Lib.hid hN
  have HV := Lib.hid hV
  have HVW := Lib.hid hVw
  have HBN := Lib.hid hbn
  have HA := Lib.hid ha
  have HB := Lib.hid hb
  clear hN hV hVw hbn ha hb
  go_enter Try.func70, Try.ntmps70
  go_wp2_with (at_make; refine wp_makeW _ rfl _ _ rfl .i64 .i64 _ _ a.length rfl rfl (by omega) (by omega) (by omega) ?_; intro w1 hO1 hb1 hs1)
  have hb2 : Below w.heap.size w (w1.alloc (.cells #[] 53)) := hb1.alloc hb1.size _
  refine (hsz _ (HA.out.step hb2 hb2.size)).mono ?_; rintro e w' ⟨rfl, rfl⟩
  go_wp2_with fail
  go_loopg [7, 8] bn (fun g rv kv wr => ∃ (k : Nat) (kk : Int) (Ar : Option Addr) (cr : Nat) (ql : List Nat), k = g ∧ rv = .slice Ar (digs (N / 2 ^ k % V)).length cr ∧ kv = .int .i64 kk ∧ Hid (kk = (k : Int) - 1) ∧ k ≤ 32 * a.length ∧
      OW wr w1.heap.size Ar cr (digs (N / 2 ^ k % V)) ∧ OW wr w.heap.size (some ⟨w.heap.size, 0, none⟩) a.length ql ∧ Hid (ql.length = a.length) ∧ Hid (val ql = 2 ^ k * (N / 2 ^ k / V)) ∧ Hid (w1.heap.size ≤ wr.heap.size) ∧ Hid (w.heap.size + 1 ≤ w1.heap.size) ∧ Below w.heap.size w wr)
  case atStart =>
    have e0 : N / 2 ^ bn % V = 0 := by rw [hst.out, Nat.zero_mod]
    refine ⟨bn, (bn : Int) - 1, some ⟨w1.heap.size, 0, none⟩, 0, List.replicate a.length 0, rfl, ?_, rfl, (by show _ = _; rfl), hbl, ?_, hO1.alloc _, (by show _ = _; simp), (by show _ = _; rw [val_replicate, hst.out]; simp), (by show _ ≤ _; simp), hs1, hb2⟩
    · rw [e0, digs_zero]; rfl
    · rw [e0, digs_zero]; exact OW.empty w1
  case round =>
    obtain ⟨k, kk, Ar, cr, ql, rfl, rfl, rfl, hkk, hk, Or, Oq, hlq, hq, hw1, hws, B⟩ := hrel
    by_cases hk0 : 0 < k
    · obtain ⟨j, rfl⟩ : ∃ j, k = j + 1 := ⟨k - 1, by omega⟩
      obtain rfl : kk = (j : Int) := by have := hkk.out; omega
      have hV0 : 0 < V := by omega
      have hrl : N / 2 ^ (j + 1) % V < V := Nat.mod_lt _ hV0
      have hrL : (digs (N / 2 ^ (j + 1) % V)).length ≤ b.length := digs_len_le.2 (Nat.lt_trans hrl HVW.out)
      have hbit : bitN N j ≤ 1 := by have := bitN_lt N j; omega
      have H1 := bit_any A c _ a wr (j : Int) j rfl (by omega) rfl (HA.out.step B B.size)
      have H2 := rdouble_any Ar cr _ (digs (N / 2 ^ (j + 1) % V)) wr (bitN N j) hbit rfl Or.rw (by omega)
      rw [← HN.out] at H1
      rw [val_digs] at H2
      by_cases hc : 2 * (N / 2 ^ (j + 1) % V) + bitN N j < V
      · obtain ⟨q1, q2⟩ := bq_no hV0 hc
        have hnx : Hid (val ql = 2 ^ j * (N / 2 ^ j / V)) := by show _ = _; rw [hq.out, q1, Nat.pow_succ, Nat.mul_assoc]
        rw [← q2] at H2
        have H3 := fun A2 c2 w2 h1 h2 => rorder_any A2 D c2 d _ _ (digs (N / 2 ^ j % V)) b w2 rfl rfl h1 h2 (Nrm_digs _) nb
        have hcm : cmpN (N / 2 ^ j % V) V = -1 := by unfold cmpN; rw [if_pos (Nat.mod_lt _ hV0)]
        rw [val_digs, ← HV.out, hcm] at H3
        clear hc q1 q2 hcm hrl hrL
        go_wp2_with fail
        refine H1.mono ?_; rintro e w' ⟨rfl, rfl⟩
        go_wp2_with fail
        refine H2.mono ?_; rintro e w2 ⟨A2, c2, rfl, O2, B2⟩
        go_wp2_with fail
        have C2 := B.trans (B2.mono B.size)
        refine (H3 A2 c2 w2 O2.rw (HB.out.step C2 C2.size)).mono ?_; rintro e w3 ⟨rfl, q, rfl⟩
        go_wp2_with fail
        go_roundg j
        case measure => omega
        case rel => exact ⟨j, _, A2, c2, ql, rfl, rfl, rfl, (by show _ = _; rfl), by omega, (O2.base_le hw1.out).drewN q, (Oq.below B2 (Nat.le_refl _)).drewN q, hlq, hnx, Nat.le_trans hw1.out B2.size, hws, bdN C2 q⟩
      · obtain ⟨q1, q2⟩ := bq_yes hV0 hbit (by omega)
        obtain ⟨r1, r2, r3⟩ := or_bit (k := j) Oq.b32 hq.out (by rw [hlq.out]; omega)
        have hnx : Hid (val (ql.set (j / 32) (wd ql (j / 32) + 2 ^ (j % 32))) = 2 ^ j * (N / 2 ^ j / V)) := by
          show _ = _
          rw [r3, hq.out, q1, Nat.pow_succ, Nat.mul_add, Nat.mul_one, Nat.mul_assoc]
        generalize hT : 2 * (N / 2 ^ (j + 1) % V) + bitN N j = T at *
        have H3 := fun A2 c2 w2 h1 h2 => rorder_any A2 D c2 d _ _ (digs T) b w2 rfl rfl h1 h2 (Nrm_digs _) nb
        rw [val_digs, ← HV.out] at H3
        have hcm : 0 ≤ cmpN T V := by unfold cmpN; rw [if_neg hc]; split <;> omega
        have hTl : (digs T).length ≤ b.length + 1 := digs_len_le.2 (by rw [Wp_succ]; have := HVW.out; omega)
        have hlt : b.length ≤ (digs T).length := len_of_le (B32_digs T) nb (by rw [val_digs, ← HV.out]; omega)
        have H4 := fun A2 c2 w2 h1 h2 => rless_any A2 D c2 d _ _ (digs T) b w2 rfl rfl h1 h2 hlt (by rw [val_digs, ← HV.out]; omega) (by omega)
        rw [val_digs, ← HV.out, ← q2] at H4
        generalize cmpN T V = cm at *
        have hwl := wd_lt Oq.b32 (j / 32)
        have hp1 : 2 ^ (j % 32) < 4294967296 := Nat.lt_of_le_of_lt (pow_le32 (Nat.mod_lt _ (by omega))) (by omega)
        have e3 : ∀ X : Int, X = (2 ^ (j % 32) : Nat) → bits .or .u32 (wd ql (j / 32) : Int) X = ((wd ql (j / 32) + 2 ^ (j % 32) : Nat) : Int) := fun X hX => by
          rw [hX, u32_or_nat _ _ hwl hp1, r1]
        have hjl : j / 32 < ql.length := by rw [hlq.out]; omega
        clear hc q1 q2 hrl hrL hT r1 r3
        go_wp2_with fail
        refine H1.mono ?_; rintro e w' ⟨rfl, rfl⟩
        go_wp2_with fail
        refine H2.mono ?_; rintro e w2 ⟨A2, c2, rfl, O2, B2⟩
        go_wp2_with fail
        have C2 := B.trans (B2.mono B.size)
        refine (H3 A2 c2 w2 O2.rw (HB.out.step C2 C2.size)).mono ?_; rintro e w3 ⟨rfl, q, rfl⟩
        go_wp2_with fail
        refine (H4 A2 c2 _ (O2.rw.drewN q) ((HB.out.step C2 C2.size).drewN q)).mono ?_; rintro e w4 ⟨A4, c4, rfl, O4, B4⟩
        have Oq4 := ((Oq.below B2 (Nat.le_refl _)).drewN q).below B4 (Nat.le_refl _)
        have C4 := (bdN C2 q).trans (B4.mono (bdN C2 q).size)
        have e4 : bits .or .u32 (wd ql (j / 32) : Int) ((2 : Int) ^ (j % 32) % 4294967296) = ((wd ql (j / 32) + 2 ^ (j % 32) : Nat) : Int) := e3 _ (by
          have h := Int.natCast_pow 2 (j % 32)
          rw [show ((2 : Nat) : Int) = 2 from rfl] at h
          rw [← h]
          generalize (2 : Nat) ^ (j % 32) = P at *
          omega)
        have E4 := Lib.hid e4
        have hset := Oq4.set (j / 32) r2
        have hsz4 : wr.heap.size ≤ w4.heap.size := Nat.le_trans B2.size B4.size
        have O4' := O4.base_le (show w1.heap.size ≤ (w2.drewN q).heap.size from Nat.le_trans hw1.out B2.size)
        have hfar := O4'.far (p := ⟨w.heap.size, j / 32, none⟩) (fun g hg => by have h := (hg ▸ O4').lt.1; have h2 := hws.out; show g ≠ w.heap.size; omega) (.int .u32 (wd ql (j / 32) + 2 ^ (j % 32) : Nat))
        have hbel2 := C4.setCell (p := ⟨w.heap.size, j / 32, none⟩) (Nat.le_refl _) (.int .u32 (wd ql (j / 32) + 2 ^ (j % 32) : Nat))
        clear e4 e3
        have ce := Oq4.cell hjl
        have fe := Oq4.frozen (j / 32)
        go_wp2_with fail
        go_region
        all_goals
          go_wp2
          go_roundg j
          case measure => omega
          case rel =>
            rw [E4.out]
            exact ⟨j, _, A4, c4, _, rfl, rfl, rfl, (by show _ = _; rfl), by omega, hfar.drewN 1, hset.drewN 1, (by show _ = _; rw [List.length_set]; exact hlq.out), hnx, (by show _ ≤ _; simp only [World.setCell, World.drew, Array.size_modify]; exact Nat.le_trans hw1.out hsz4), hws, bdN hbel2 1⟩
    · obtain rfl : k = 0 := by omega
      obtain rfl : kk = -1 := by have := hkk.out; omega
      have eR : N / 2 ^ 0 % V = N % V := by rw [Nat.pow_zero, Nat.div_one]
      have eQ : val ql = N / V := by rw [hq.out, Nat.pow_zero, Nat.div_one, Nat.one_mul]
      have H5 := rnorm_any (some ⟨w.heap.size, 0, none⟩) a.length a.length ql wr hlq.out.symm Oq.rw
      rw [eQ] at H5
      rw [eR] at Or ⊢
      clear eR eQ
      go_wp2_with fail
      refine H5.mono ?_; rintro e w2 ⟨A2, c2, rfl, O2, B2⟩
      go_wp2_with fail
      go_ret2
      have hb : w.heap.size ≤ w1.heap.size := by have := hws.out; omega
      exact ⟨A2, c2, Ar, cr, rfl, O2.base_le B.size, (Or.below B2 (Nat.le_refl _)).base_le hb, B.trans (B2.mono B.size)⟩
end Go.Proofs.Ytabcnpcfknlmlaa
