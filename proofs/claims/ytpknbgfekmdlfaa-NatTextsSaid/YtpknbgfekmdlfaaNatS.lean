/- Walks: the reference's Text. -/
import Derived.Test.YtpknbgfekmdlfaaNatR
namespace Go.Proofs.Ytpknbgfekmdlfaa
open Go.RowKit

theorem own_ne {w : World} {b1 b2 : Nat} {A1 A2 : Option Addr} {c1 c2 : Nat} {l : List Nat} {o : List UInt8} {g1 g2 : Nat} (h1 : OW w b1 A1 c1 l) (h2 : OB w b2 A2 c2 o) (e1 : A1 = some ⟨g1, 0, none⟩) (e2 : A2 = some ⟨g2, 0, none⟩) : g2 ≠ g1 := by
  subst e1 e2
  rintro rfl
  rcases h1.1.1.2 with ⟨h, _⟩ | ⟨g, cap, cur, h, _, hh, _⟩
  · cases h
  · rcases OL.form h2 with _ | _
    all_goals
      rcases h2.1.2 with ⟨h', _⟩ | ⟨g', cap', cur', h', _, hh', _⟩
      · cases h'
      · simp only [Value.slice.injEq, Option.some.injEq, Addr.mk.injEq, and_true, true_and] at h h'
        obtain ⟨rfl, _⟩ := h
        obtain ⟨rfl, _⟩ := h'
        rw [hh] at hh'
        simp at hh'
def Sv (l o : List Nat) (k r b : Nat) : Prop := o.length = l.length ∧ (∀ t, t < k → wd o t = wd l t) ∧ val (l.drop k) = val (o.drop k) * b + r
theorem Sv_step {l o : List Nat} {j r b : Nat} (hb : 0 < b) (hj : j < l.length) (h : Sv l o (j + 1) r b) : Sv l (o.set j (sdiv r (wd o j) b)) j (smod r (wd o j) b) b := by
  refine ⟨by rw [List.length_set]; exact h.1, fun t ht => ?_, ?_⟩
  · rw [wd_set_ne (by omega)]; exact h.2.1 t (by omega)
  · have := short_step hb hj h.1 h.2.2
    rw [h.2.1 j (by omega)]; exact this
theorem Sv_end {N r b : Nat} {o : List Nat} (hb : 0 < b) (hr : r < b) (h : Sv (digs N) o 0 r b) : val o = N / b ∧ r = N % b := by
  have h3 := h.2.2
  rw [List.drop_zero, List.drop_zero, val_digs] at h3
  exact short_end hb hr h3
theorem cat_div (r x d : Nat) : ((r : Int) * 4294967296 + (x : Int)) / (d : Int) = (sdiv r x d : Int) := by unfold sdiv; simp
theorem cat_mod (r x d : Nat) : ((r : Int) * 4294967296 + (x : Int)) % (d : Int) = (smod r x d : Int) := by unfold smod; simp
def RLeft (b N0 N : Nat) (o : List UInt8) : Prop := o ++ rdg b N = rdg b N0
theorem RLeft_step {b N0 N : Nat} {o : List UInt8} (hb : 2 ≤ b) (h : RLeft b N0 N o) (hN : N ≠ 0) : RLeft b N0 (N / b) (o ++ [dch (N % b)]) := by
  unfold RLeft at *
  rw [← h, rdg_pos hb hN]; simp

set_option maxHeartbeats 4000000 in
theorem rtext_loop (A : Option Addr) (c : Nat) (a : List Nat) (b : Nat) (w : World) (hb1 : 2 ≤ b) (hb2 : b ≤ 36) (ha : RW w w.heap.size A c a) (hs : soundB a = true) :
    Calls Try.prog 29 #[.slice A a.length c, .int .i64 (b : Int)] w fun e w' => e = .returned (.tuple #[.string ⟨(txt b (val a)).toArray⟩, .int .i64 0]) ∧ Below w.heap.size w w' := by
  have hck := rsound_any A c _ a w rfl ha
  rw [hs] at hck
  have hbl0 : blen (val a) ≤ 16384 := by
    have h5 : a.length ≤ 512 := by simp only [soundB, decide_eq_true_eq] at hs; exact hs.1
    exact Nat.le_trans (blen_le.2 (val_lt2 ha.b32)) (by omega)
  clear hs
  have hB1 : Below w.heap.size w (w.alloc (.cells #[] 5)) := (Below.refl _ _).alloc (Nat.le_refl _) _
  have hnm := rnorm_any A c _ a (w.alloc (.cells #[] 5)) rfl (ha.step hB1 (by simp))
  go_enter Try.func29, Try.ntmps29
  go_wp2_with fail
  refine hck.mono ?_; rintro e w' ⟨rfl, rfl⟩
  go_wp2_with fail
  refine hnm.mono ?_; rintro e w1 ⟨A1, c1, rfl, hO1, hb1'⟩
  have hB2 := hB1.trans (hb1'.mono (by simp))
  go_wp2_with fail
  go_loopw [6, 7] (fun ov av wr => ∃ (N : Nat) (A1 : Option Addr) (c1 : Nat) (A2 : Option Addr) (c2 : Nat) (o : List UInt8), av = .slice A1 (digs N).length c1 ∧ OW wr w.heap.size A1 c1 (digs N) ∧ ov = .slice A2 o.length c2 ∧ OB wr w.heap.size A2 c2 o ∧ o.length + blen N ≤ 20000 ∧
      Hid (RLeft b (val a) N o) ∧ Below w.heap.size w wr) (fun ov _ _ => 20001 - slen ov)
  case atStart => exact ⟨val a, A1, c1, _, _, [], rfl, hO1.base_le (by simp), rfl, OL.below (OB.empty w) hb1' (Nat.le_refl _), by simp only [List.length_nil]; omega, rfl, hB2⟩
  case round =>
    obtain ⟨N, A1, c1, A2, c2, o, rfl, hO1, rfl, hO, hol, hL, hbel⟩ := hrel
    obtain ⟨wo, rfl⟩ : ∃ wo : World, wo = wr := ⟨_, rfl⟩
    by_cases hN : N = 0
    · subst hN
      have hl0 : ¬ 0 < (digs 0).length := by rw [digs_zero]; simp
      have hfin := hL.out
      unfold RLeft at hfin
      rw [rdg_zero, List.append_nil] at hfin
      by_cases hol0 : o.length = 0
      · have ho0 : ((o.length : Int) == 0) = true := by simp [hol0]
        have hv : Hid (txt b (val a) = [48]) := by
          show _ = _
          unfold txt
          rw [if_pos]
          by_cases h0 : val a = 0
          · exact h0
          · rw [rdg_pos hb1 h0] at hfin
            rw [hfin] at hol0; simp at hol0
        clear hfin hol0
        go_wp2_with fail
        go_ret2
        refine ⟨?_, hbel⟩
        rw [hv.out]; rfl
      · have ho0 : ((o.length : Int) == 0) = false := beq_eq_false_iff_ne.2 (by omega)
        have hv : Hid (txt b (val a) = o.reverse) := by
          show _ = _
          unfold txt
          rw [if_neg, hfin]
          intro h0; rw [h0, rdg_zero] at hfin; rw [hfin] at hol0; exact hol0 rfl
        have hpos : 0 < o.length := by omega
        clear hfin hol0
        have hB3 : Below w.heap.size w (wo.alloc (.cells #[] 5)) := hbel.alloc hbel.size _
        go_wp2_with fail
        go_loopw [10, 11] (fun ov iv wr => ∃ (k : Nat) (A3 : Option Addr) (c3 : Nat) (l : List UInt8), k ≤ o.length ∧ iv = .int .i64 ((k : Int) - 1) ∧ ov = .slice A3 l.length c3 ∧ OB wr wo.heap.size A3 c3 l ∧ Hid (l = (o.drop k).reverse) ∧ RB wr wo.heap.size A2 c2 o ∧ Below w.heap.size w wr ∧ wo.heap.size ≤ wr.heap.size) (fun _ iv _ => (intOf iv + 1).toNat)
        case atStart => exact ⟨o.length, _, 0, [], Nat.le_refl _, rfl, rfl, OB.empty wo, by show _ = _; rw [List.drop_length]; rfl, RL.below (OL.rl hO) ((Below.refl _ _).alloc (Nat.le_refl _) _), hB3, by simp⟩
        case round =>
          obtain ⟨k, A3, c3, l, hk, rfl, rfl, hO3, hl, hRB, hbel3, hsz3⟩ := hrel
          have hll : l.length ≤ 20000 := by rw [hl.out, List.length_reverse, List.length_drop]; omega
          by_cases h0 : 0 < k
          · obtain ⟨j, rfl⟩ : ∃ j, k = j+1 := ⟨k-1, by omega⟩
            obtain ⟨b1, o1, rfl, hlt1, hx⟩ := RL.at_ hRB (by omega)
            have hxk := hx j _ (bg_get? (l := o) (k := j) (by omega))
            simp only [f8] at hxk
            have hst : Hid (l ++ [bg o j] = (o.drop j).reverse) := by
              show _ = _
              rw [hl.out, List.drop_eq_getElem_cons (by omega : j < o.length), List.reverse_cons]
              congr 2
              have := bg_get? (l := o) (k := j) (by omega)
              rw [List.getElem?_eq_getElem (by omega)] at this
              exact (Option.some.inj this).symm
            have hB4 : Below w.heap.size w (wr.alloc (.cells #[.int .u8 ((bg o j).toNat : Int)] 5)) := hbel3.alloc hbel3.size _
            clear hx
            go_wp2_with (at_builtin; refine wp_appB _ rfl _ _ rfl wo.heap.size _ _ _ l rfl rfl (OL.alloc hO3 _) _ _ _ [bg o j] rfl rfl _ (RB.one wr 5 (bg o j)) (by simp; omega) (by simp; omega) ?_; intro A5 c5 w5 k1 k2 k3)
            have hB5 : Below wo.heap.size wr w5 := ((Below.refl wo.heap.size wr).alloc hsz3 _).trans k3
            go_roundw
            case rel => exact ⟨j, A5, c5, _, by omega, by go_num, by rw [List.length_append]; rfl, k1, hst, RL.below hRB hB5, hbel3.trans (hB5.mono hbel.size), Nat.le_trans hsz3 hB5.size⟩
            case measure => simp [intOf]
          · obtain rfl : k = 0 := by omega
            have hl0' : l = o.reverse := by rw [hl.out, List.drop_zero]
            have HL := Lib.hid hl0'
            have hlpos : 0 < l.length := by rw [hl0', List.length_reverse]; exact hpos
            clear hl0'
            have hA3 : ∃ b off, A3 = some ⟨b, off, none⟩ := by
              rcases OL.form hO3 with ⟨_, _, he⟩ | ⟨g, rfl, _⟩
              · rw [he] at hlpos; simp at hlpos
              · exact ⟨g, 0, rfl⟩
            have hconv := conv_bytes (OL.rl hO3) hA3
            go_wp2_with fail
            go_ret2
            refine ⟨?_, hbel3⟩
            rw [hv.out, ← HL.out]; rfl
    · have hl0 : 0 < (digs N).length := Nat.pos_of_ne_zero (fun h => hN (digs_len0.1 h))
      obtain ⟨g1, rfl⟩ : ∃ g, A1 = some ⟨g, 0, none⟩ := by
        rcases hO1.form with ⟨_, _, he⟩ | ⟨g, rfl, _⟩
        · rw [he] at hl0; simp at hl0
        · exact ⟨g, rfl⟩
      have hst := Lib.hid (RLeft_step hb1 hL.out hN)
      have hbl := (blen_div_lt hb1 N).2 hN
      have hlb := hO1.big
      go_wp2_with fail
      go_loopw [8, 9] (fun rv iv wr => ∃ (k r : Nat) (l : List Nat), k ≤ (digs N).length ∧ iv = .int .i64 ((k : Int) - 1) ∧ r < b ∧ rv = .int .u64 (r : Int) ∧ OW wr w.heap.size (some ⟨g1, 0, none⟩) c1 l ∧ Hid (Sv (digs N) l k r b) ∧ OB wr w.heap.size A2 c2 o ∧ Below w.heap.size w wr) (fun _ iv _ => (intOf iv + 1).toNat)
      case atStart => exact ⟨(digs N).length, 0, _, Nat.le_refl _, rfl, by omega, rfl, hO1, ⟨rfl, fun t _ => rfl, by rw [List.drop_length]; simp [val]⟩, hO, hbel⟩
      case round =>
        obtain ⟨k, r, l, hk, rfl, hr, rfl, hW, hSv, hO, hbel⟩ := hrel
        by_cases h0 : 0 < k
        · obtain ⟨j, rfl⟩ : ∃ j, k = j+1 := ⟨k-1, by omega⟩
          have hok : j < l.length := by have := hSv.out.1; omega
          have hoc := hW.cell hok
          have hfz := hW.frozen j
          have hwx := wd_lt hW.b32 j
          have e2 := cat_div r (wd l j) b
          have e3 := cat_mod r (wd l j) b
          have hq : sdiv r (wd l j) b < 4294967296 := short_lt (by omega) hr hwx
          have hrm : smod r (wd l j) b < b := Nat.mod_lt _ (by omega)
          have hset := hW.set j hq
          have hst2 := Lib.hid (Sv_step (by omega) (by omega) hSv.out)
          have hfar := OL.far hO (p := ⟨g1, j, none⟩) (fun g2 h2 => own_ne hW hO rfl h2) (.int .u32 (sdiv r (wd l j) b : Nat))
          have hbel2 := hbel.setCell (p := ⟨g1, j, none⟩) hW.lt.1 (.int .u32 (sdiv r (wd l j) b : Nat))
          go_wp2
          go_roundw
          case rel => exact ⟨j, _, _, by omega, by go_num, hrm, rfl, hset, hst2, hfar, hbel2⟩
          case measure => simp [intOf]
        · obtain rfl : k = 0 := by omega
          have hf1 := Lib.hid (Sv_end (by omega) hr hSv.out).1
          have hf2 := Lib.hid (Sv_end (by omega) hr hSv.out).2
          have hW2 := hW.rw
          have hll : l.length = (digs N).length := hSv.out.1
          have HLL := Lib.hid hll
          have hnm := rnorm_any (some ⟨g1, 0, none⟩) c1 (digs N).length l wr hll.symm hW2
          rw [hf1.out] at hnm
          have hdg := digit_any r
          clear hll
          go_wp2_with fail
          refine hnm.mono ?_; rintro e w2 ⟨A3, c3, rfl, hO3, hb3⟩
          go_wp2_with fail
          refine (hdg _ (by omega)).mono ?_; rintro e w' ⟨rfl, rfl⟩
          have hO5 := OL.below hO hb3 (Nat.le_refl _)
          have hB3 := hbel.trans (hb3.mono hbel.size)
          have hB4 : Below w.heap.size w (w2.alloc (.cells #[.int .u8 ((dch r).toNat : Int)] 5)) := hB3.alloc hB3.size _
          go_wp2_with (at_builtin; refine wp_appB _ rfl _ _ rfl w.heap.size _ _ _ o rfl rfl (OL.alloc hO5 _) _ _ _ [dch r] rfl rfl _ (RB.one w2 5 (dch r)) (by simp; omega) hB4.size ?_; intro A5 c5 w5 k1 k2 k3)
          have hR5 := keepW hO3 hO (OW.alloc hO3 _) k2
          rw [hf2.out] at k1
          go_roundw
          case rel => exact ⟨N / b, A3, c3, A5, c5, _, rfl, hR5.base_le hbel.size, by rw [List.length_append]; rfl, k1, by rw [List.length_append]; simp only [List.length_cons, List.length_nil]; omega, hst, hB4.trans k3⟩
          case measure => simp [slen]; omega

theorem rtext_any (A : Option Addr) (c n : Nat) (a : List Nat) (b : Int) (w : World) (hn : n = a.length) (ha : RW w w.heap.size A c a) :
    Calls Try.prog 29 #[.slice A n c, .int .i64 b] w (RetT w (textA a b)) := by
  subst hn
  have hck := rsound_any A c _ a w rfl ha
  unfold textA
  cases hs : soundB a with
  | true =>
    rw [hs] at hck
    by_cases h1 : b < 2
    · rw [if_pos rfl, if_pos (Or.inl h1)]
      clear hs
      go_enter Try.func29, Try.ntmps29
      go_wp2_with fail
      refine hck.mono ?_; rintro e w' ⟨rfl, rfl⟩
      go_wp2_with fail
      go_ret2
      exact ⟨rfl, Below.refl _ _⟩
    · by_cases h2 : b > 36
      · rw [if_pos rfl, if_pos (Or.inr h2)]
        clear hs
        go_enter Try.func29, Try.ntmps29
        go_wp2_with fail
        refine hck.mono ?_; rintro e w' ⟨rfl, rfl⟩
        go_wp2_with fail
        go_ret2
        exact ⟨rfl, Below.refl _ _⟩
      · rw [if_pos rfl, if_neg (by omega)]
        have h := rtext_loop A c a b.toNat w (by omega) (by omega) ha hs
        rw [Int.toNat_of_nonneg (by omega)] at h
        exact h
  | false =>
    rw [hs] at hck
    clear hs
    go_enter Try.func29, Try.ntmps29
    go_wp2_with fail
    refine hck.mono ?_; rintro e w' ⟨rfl, rfl⟩
    go_wp2_with fail
    go_ret2
    exact ⟨rfl, Below.refl _ _⟩
end Go.Proofs.Ytpknbgfekmdlfaa
