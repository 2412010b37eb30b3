/- Walks: the digits of texts. -/
import Derived.Test.YtpknbgfekmdlfaaNatQ
import Derived.Test.YtpknbgfekmdlfaaBytes
import Derived.Test.YtpknbgfekmdlfaaPlainD
namespace Go.Proofs.Ytpknbgfekmdlfaa
open Go.RowKit

theorem digit_any (r : Nat) (w : World) (h : r < 36) : Calls Try.prog 59 #[.int .u32 (r : Int)] w fun e w' => e = .returned (.int .u8 ((dch r).toNat : Int)) ∧ w = w' := by
  have hd := dch_nat h
  by_cases h1 : r < 10
  · rw [if_pos h1] at hd
    have HD := Lib.hid hd; clear hd
    go_enter Try.func59, Try.ntmps59
    go_wp2
    go_ret
    exact ⟨ret_int (by rw [HD.out]; omega), rfl⟩
  · rw [if_neg h1] at hd
    have HD := Lib.hid hd; clear hd
    go_enter Try.func59, Try.ntmps59
    go_wp2
    go_ret
    exact ⟨ret_int (by rw [HD.out]; omega), rfl⟩

theorem dig_at (r : Nat) (h : r < 36) (h' : r < ({ data := #[48, 49, 50, 51, 52, 53, 54, 55, 56, 57, 97, 98, 99, 100, 101, 102, 103, 104, 105, 106, 107, 108, 109, 110, 111, 112, 113, 114, 115, 116, 117, 118, 119, 120, 121, 122] } : ByteArray).size) : (({ data := #[48, 49, 50, 51, 52, 53, 54, 55, 56, 57, 97, 98, 99, 100, 101, 102, 103, 104, 105, 106, 107, 108, 109, 110, 111, 112, 113, 114, 115, 116, 117, 118, 119, 120, 121, 122] } : ByteArray)[r]'h').toNat = (dch r).toNat := by
  have key : ∀ r : Fin 36, (({ data := #[48, 49, 50, 51, 52, 53, 54, 55, 56, 57, 97, 98, 99, 100, 101, 102, 103, 104, 105, 106, 107, 108, 109, 110, 111, 112, 113, 114, 115, 116, 117, 118, 119, 120, 121, 122] } : ByteArray)[r.val]'(r.isLt)).toNat = (dch r.val).toNat := by decide
  exact key ⟨r, h⟩

/-- what is left of the digits -/
def Left (b N0 N : Nat) (o : List UInt8) : Prop := (o = [] → N = N0) ∧ (o ≠ [] → o ++ rdg b N = rtx b N0)
theorem Left_step {b N0 N : Nat} {o : List UInt8} (hb : 2 ≤ b) (h : Left b N0 N o) (hN : N ≠ 0 ∨ o = []) : Left b N0 (N / b) (o ++ [dch (N % b)]) := by
  refine ⟨fun he => by simp at he, fun _ => ?_⟩
  by_cases ho : o = []
  · subst ho
    rw [h.1 rfl, rtx_first hb]; rfl
  · rcases hN with hN | hN
    · rw [← h.2 ho, rdg_pos hb hN]; simp
    · exact absurd hN ho
theorem Left_end {b N0 : Nat} {o : List UInt8} (h : Left b N0 0 o) (ho : o ≠ []) : o = rtx b N0 := by
  have := h.2 ho
  rw [rdg_zero, List.append_nil] at this
  exact this

theorem blen_div_lt {b : Nat} (hb : 2 ≤ b) (N : Nat) : blen (N / b) ≤ blen N ∧ (N ≠ 0 → blen (N / b) < blen N) := by
  by_cases h0 : N = 0
  · subst h0; simp
  · have h1 : N / b ≤ N / 2 := Nat.div_le_div_left hb (by omega)
    have h2 : blen (N / b) ≤ blen (N / 2) := blen_le.2 (Nat.lt_of_le_of_lt h1 (blen_lt _))
    have h3 := blen_pos h0
    exact ⟨by omega, fun _ => by omega⟩
theorem digs_or {N : Nat} {o : List UInt8} (h : N ≠ 0 ∨ o = []) : (N ≠ 0 ∧ 0 < (digs N).length) ∨ (¬ 0 < (digs N).length ∧ o = [] ∧ blen N = 0) := by
  by_cases h0 : N = 0
  · right; subst h0; rw [digs_zero]; exact ⟨by simp, h.resolve_left (fun h => h rfl), blen_zero⟩
  · left; exact ⟨h0, Nat.pos_of_ne_zero (fun h => h0 (digs_len0.1 h))⟩
/-- what lies in a new block stays behind an append to an elder one -/
theorem keepW {wr w2 w3 w5 : World} {base : Nat} {A2 A3 : Option Addr} {c2 c3 n : Nat} {o : List UInt8} {l : List Nat} (h3 : OW w2 wr.heap.size A3 c3 l) (ho : OB wr base A2 c2 o)
    (h : OW w3 wr.heap.size A3 c3 l) (hg : w3.grownBy w5 (Value.slice A2 n c2).ownBlock) : OW w5 wr.heap.size A3 c3 l := by
  refine h.grown hg fun g hA => ?_
  subst hA
  have h1 := h3.lt
  rcases OL.form ho with ⟨rfl, _⟩ | ⟨g2, rfl, _, h2, _⟩
  · simp [Value.ownBlock]
  · simp only [Value.ownBlock, ne_eq, Option.some.injEq]; omega

set_option maxHeartbeats 1000000 in
theorem text_loop (A : Option Addr) (c : Nat) (a : List Nat) (b : Nat) (w : World) (hb1 : 2 ≤ b) (hb2 : b ≤ 36) (ha : RW w w.heap.size A c a) (hs : soundB a = true) :
    Calls Try.prog 28 #[.slice A a.length c, .int .i64 (b : Int)] w fun e w' => e = .returned (.tuple #[.string ⟨(txt b (val a)).toArray⟩, .int .i64 0]) ∧ Below w.heap.size w w' := by
  have hck := check1_any A c a w 22 ha
  rw [hs] at hck
  have hB1 : Below w.heap.size w (w.alloc (.cells #[.slice A a.length c] 22)) := (Below.refl _ _).alloc (Nat.le_refl _) _
  have hd : a = digs (val a) := by simp only [soundB, decide_eq_true_eq] at hs; exact hs.2
  have HD := Lib.hid hd
  have hbl0 : blen (val a) ≤ 16384 := by
    have h5 : a.length ≤ 512 := by simp only [soundB, decide_eq_true_eq] at hs; exact hs.1
    exact Nat.le_trans (blen_le.2 (val_lt2 ha.b32)) (by omega)
  clear hs hd
  simp only [if_true] at hck
  go_enter Try.func28, Try.ntmps28
  go_wp2_with fail
  refine hck.mono ?_; rintro e w' ⟨rfl, rfl⟩
  go_wp2_with fail
  go_loopw [0, 7] (fun av ov wr => ∃ (N : Nat) (A1 : Option Addr) (c1 : Nat) (A2 : Option Addr) (c2 : Nat) (o : List UInt8), av = .slice A1 (digs N).length c1 ∧ RW wr wr.heap.size A1 c1 (digs N) ∧ ov = .slice A2 o.length c2 ∧ OB wr w.heap.size A2 c2 o ∧ o.length + blen N ≤ 20000 ∧
      Hid (Left b (val a) N o) ∧ Below w.heap.size w wr) (fun _ ov _ => 20001 - slen ov)
  case atStart => exact ⟨val a, A, c, none, 0, [], by rw [← HD.out], by rw [← HD.out]; exact ha.step hB1 (by simp), rfl, OL.nil _ _ _ _, by simp only [List.length_nil]; omega, ⟨fun _ => rfl, fun h => absurd rfl h⟩, hB1⟩
  case round =>
    obtain ⟨N, A1, c1, A2, c2, o, rfl, hR, rfl, hO, hol, hL, hbel⟩ := hrel
    have hsh := short_any A1 c1 _ (digs N) b wr (by omega) (by omega) rfl hR
    rw [val_digs] at hsh
    by_cases hgo : N ≠ 0 ∨ o = []
    · have hrb : N % b < b := Nat.mod_lt _ (by omega)
      have hst := Lib.hid (Left_step hb1 hL.out hgo)
      have hbl : blen (N / b) ≤ blen N ∧ (N ≠ 0 → blen (N / b) < blen N) := blen_div_lt hb1 N
      have ht1 : Hid ((N ≠ 0 ∧ 0 < (digs N).length) ∨ (¬ 0 < (digs N).length ∧ o = [] ∧ blen N = 0)) := digs_or hgo
      generalize N % b = r at *
      generalize N / b = m at *
      have e1 := dig_at r (by omega)
      have hone := fun w2 => RB.one w2 5 (dch r)
      rcases ht1.out with ⟨hN0, hl0⟩ | ⟨hl0, ho, hbN⟩
      · have hbl2 := hbl.2 hN0
        go_wp2_with fail
        refine hsh.mono ?_; rintro e w2 ⟨A3, c3, rfl, hO3, hb3⟩
        have hO1 := OL.below hO hb3 (Nat.le_refl _)
        have hB2 : Below w.heap.size w (w2.alloc (.cells #[.int .u8 ((dch r).toNat : Int)] 5)) := (hbel.trans (hb3.mono hbel.size)).alloc (Nat.le_trans hbel.size hb3.size) _
        go_wp2_with (at_builtin; refine wp_appB _ rfl _ _ rfl w.heap.size _ _ _ o rfl rfl (OL.alloc hO1 _) _ _ _ [dch r] rfl rfl _ (hone w2) (by simp; omega) hB2.size ?_; intro A5 c5 w5 g1 g2 g3)
        have hR5 := keepW hO3 hO (OW.alloc hO3 _) g2
        go_roundw
        case rel => exact ⟨m, A3, c3, A5, c5, _, rfl, hR5.rw, by rw [List.length_append]; rfl, g1, by rw [List.length_append]; simp only [List.length_cons, List.length_nil]; omega, hst, hB2.trans g3⟩
        case measure => simp [slen]; omega
      · have hol0 : o.length ≤ 0 := by rw [ho]; simp
        have ho0 : ((o.length : Int) == 0) = true := by simp [ho]
        have hbl2 := hbl.1
        have HO := Lib.hid ho; clear ho
        have HN := Lib.hid hbN
        have hbN2 : blen N ≤ 0 := by omega
        clear hbN
        go_wp2_with fail
        refine hsh.mono ?_; rintro e w2 ⟨A3, c3, rfl, hO3, hb3⟩
        have hO1 := OL.below hO hb3 (Nat.le_refl _)
        have hB2 : Below w.heap.size w (w2.alloc (.cells #[.int .u8 ((dch r).toNat : Int)] 5)) := (hbel.trans (hb3.mono hbel.size)).alloc (Nat.le_trans hbel.size hb3.size) _
        go_wp2_with (at_builtin; refine wp_appB _ rfl _ _ rfl w.heap.size _ _ _ o rfl rfl (OL.alloc hO1 _) _ _ _ [dch r] rfl rfl _ (hone w2) (by simp; omega) hB2.size ?_; intro A5 c5 w5 g1 g2 g3)
        have hR5 := keepW hO3 hO (OW.alloc hO3 _) g2
        go_roundw
        case rel => exact ⟨m, A3, c3, A5, c5, _, rfl, hR5.rw, by rw [List.length_append]; rfl, g1, by rw [List.length_append]; simp only [List.length_cons, List.length_nil]; omega, hst, hB2.trans g3⟩
        case measure => simp [slen]; omega
    · have hN : N = 0 := by
        rcases Nat.eq_zero_or_pos N with h | h
        · exact h
        · exact absurd (.inl (by omega)) hgo
      have ho : o ≠ [] := fun h => hgo (.inr h)
      subst hN
      have hrt := Lib.hid (Left_end hL.out ho)
      have hl0 : ¬ 0 < (digs 0).length := by rw [digs_zero]; simp
      have hol0 : 0 < o.length := List.length_pos_iff.2 ho
      have ho0 : ((o.length : Int) == 0) = false := beq_eq_false_iff_ne.2 (by omega)
      clear hgo ho hsh
      have hA2 : ∃ b off, A2 = some ⟨b, off, none⟩ := by
        rcases OL.form hO with ⟨_, _, he⟩ | ⟨g, rfl, _⟩
        · rw [he] at hol0; simp at hol0
        · exact ⟨g, 0, rfl⟩
      go_wp2_with fail
      refine (reverse_any A2 c2 _ o wr w.heap.size rfl hO).mono ?_; rintro e w2 ⟨rfl, hO2, hb2⟩
      have hconv := conv_bytes (OL.rl hO2) hA2
      rw [List.length_reverse] at hconv
      go_wp2_with fail
      go_ret2
      refine ⟨?_, hbel.trans hb2⟩
      rw [← rtx_rev, ← hrt.out]
      rfl

/-- an answer that is a text with an error's number -/
def RetT (w : World) (t : List UInt8 × Int) (e : Ending) (w' : World) : Prop := e = .returned (.tuple #[.string ⟨t.1.toArray⟩, .int .i64 t.2]) ∧ Below w.heap.size w w'
def textA (a : List Nat) (b : Int) : List UInt8 × Int := if soundB a then (if b < 2 ∨ b > 36 then ([], 1) else (txt b.toNat (val a), 0)) else ([], 2)
theorem text_any (A : Option Addr) (c n : Nat) (a : List Nat) (b : Int) (w : World) (hn : n = a.length) (ha : RW w w.heap.size A c a) :
    Calls Try.prog 28 #[.slice A n c, .int .i64 b] w (RetT w (textA a b)) := by
  subst hn
  have hck := check1_any A c a w 22 ha
  have hB1 : Below w.heap.size w (w.alloc (.cells #[.slice A a.length c] 22)) := (Below.refl _ _).alloc (Nat.le_refl _) _
  unfold textA
  cases hs : soundB a with
  | true =>
    rw [hs] at hck
    by_cases h1 : b < 2
    · rw [if_pos rfl, if_pos (Or.inl h1)]
      clear hs
      go_enter Try.func28, Try.ntmps28
      go_wp2_with fail
      refine hck.mono ?_; rintro e w' ⟨rfl, rfl⟩
      go_wp2_with fail
      go_ret2
      exact ⟨rfl, hB1⟩
    · by_cases h2 : b > 36
      · rw [if_pos rfl, if_pos (Or.inr h2)]
        clear hs
        go_enter Try.func28, Try.ntmps28
        go_wp2_with fail
        refine hck.mono ?_; rintro e w' ⟨rfl, rfl⟩
        go_wp2_with fail
        go_ret2
        exact ⟨rfl, hB1⟩
      · rw [if_pos rfl, if_neg (by omega)]
        have h := text_loop A c a b.toNat w (by omega) (by omega) ha hs
        rw [Int.toNat_of_nonneg (by omega)] at h
        exact h
  | false =>
    rw [hs] at hck
    clear hs
    go_enter Try.func28, Try.ntmps28
    go_wp2_with fail
    refine hck.mono ?_; rintro e w' ⟨rfl, rfl⟩
    go_wp2_with fail
    go_ret2
    exact ⟨rfl, hB1⟩
end Go.Proofs.Ytpknbgfekmdlfaa
