/- Walks: the references' Norm, Plus, Less. -/
import Derived.Test.YtabcnpcfknlmlaaNatC
namespace Go.Proofs.Ytabcnpcfknlmlaa
open Go.RowKit

set_option maxHeartbeats 1000000 in
theorem rnorm_any (A : Option Addr) (c n : Nat) (l : List Nat) (w : World) (hn : n = l.length) (h : RW w w.heap.size A c l) :
    Calls Try.prog 59 #[.slice A n c] w (RetW w (val l)) := by
  subst hn
  have hbig := h.big
  have hlc := h.lc
  go_enter Try.func59, Try.ntmps59
  go_wp2
  go_loop [3] (fun n => ∃ k : Nat, k ≤ l.length ∧ n = .int .i64 k ∧ Hid (trimN l k = trimN l l.length)) (fun i => (intOf i).toNat)
  case atStart => exact ⟨l.length, Nat.le_refl _, rfl, rfl⟩
  case round =>
    obtain ⟨k, hk, rfl, hk2⟩ := hrel
    by_cases h0 : 0 < k
    · obtain ⟨b, off, rfl, hb, hx⟩ := h.at_ (by omega)
      have hxk := hx (k-1) (by omega)
      obtain ⟨j, rfl⟩ : ∃ j, k = j+1 := ⟨k-1, by omega⟩
      rw [Nat.add_sub_cancel] at hxk
      by_cases hz : wd l j = 0
      · have hz' : ((wd l j : Int) == 0) = true := by simp [hz]
        have HZ := Lib.hid hz; clear hz
        clear h hx
        go_wp2
        go_round
        case rel => exact ⟨j, by omega, by go_num, by have h2 := hk2.out; have h3 := HZ.out; simp only [trimN, h3, if_true] at h2; exact h2⟩
        case measure => simp [intOf]
      · have hz' : ((wd l j : Int) == 0) = false := by simp [hz]
        have hT : Hid (l.take (j + 1) = digs (val l)) := by
          have h2 := hk2.out
          simp only [trimN, hz, if_false] at h2
          have := trim_digs h.b32
          rw [← h2] at this; exact this
        have hr := (h.below ((Below.refl w.heap.size w).alloc (Nat.le_refl _) (.cells #[] 53))).take (j + 1)
        have hlen : (j + 1) = (l.take (j + 1)).length := by rw [List.length_take]; omega
        have HL := Lib.hid hlen; clear hlen
        clear h hx
        go_wp2_with (at_builtin; refine wp_appW _ rfl _ _ rfl w.heap.size _ _ _ [] rfl rfl (OW.empty w) _ _ _ (l.take (j + 1)) rfl HL.out _ hr (by rw [← HL.out]; simp; omega) (by simp) ?_; intro A' c' w' h1 h2 h3)
        go_ret
        have hE : ([] ++ l.take (j + 1)) = digs (val l) := by rw [List.nil_append, hT.out]
        rw [hE] at h1
        exact ⟨A', c', ret_slice (by rw [← hE, List.nil_append]; exact HL.out), h1, ((Below.refl w.heap.size w).alloc (Nat.le_refl _) _).trans h3⟩
    · obtain rfl : k = 0 := by omega
      have hE : ([] ++ []) = digs (val l) := by
        have h2 := hk2.out
        simp only [trimN] at h2
        have := trim_digs h.b32
        rw [← h2] at this; exact this
      have HE := Lib.hid hE; clear hE
      go_wp2_with (at_builtin; refine wp_appW _ rfl _ _ rfl w.heap.size _ _ _ [] rfl rfl (OW.empty w) _ _ _ [] rfl rfl _ (RW.nil _ 0 _ _) (by simp) (by simp) ?_; intro A' c' w' h1 h2 h3)
      go_ret
      rw [HE.out] at h1
      refine ⟨A', c', ?_, h1, ((Below.refl w.heap.size w).alloc (Nat.le_refl _) _).trans h3⟩
      rw [← HE.out]; rfl

/-! ### the reference's Plus -/
theorem rplus_step {a b o : List Nat} {k q : Nat} (hk : o.length = k) (h : val o + q * Wp k = val (a.take k) + val (b.take k)) :
    val (o ++ [(q + (wd a k + wd b k)) % 4294967296]) + (q + (wd a k + wd b k)) / 4294967296 * Wp (k + 1) = val (a.take (k + 1)) + val (b.take (k + 1)) := by
  have e : (q + (wd a k + wd b k)) % 4294967296 + (q + (wd a k + wd b k)) / 4294967296 * 4294967296 = q + (wd a k + wd b k) := by omega
  generalize (q + (wd a k + wd b k)) % 4294967296 = f at *
  generalize (q + (wd a k + wd b k)) / 4294967296 = c at *
  rw [val_append, hk, val_take_succ' a, val_take_succ' b, Wp_succ, val_one]
  have e2 : (f + c * 4294967296) * Wp k = (q + (wd a k + wd b k)) * Wp k := by rw [e]
  rw [Nat.add_mul, Nat.add_mul, Nat.add_mul] at e2
  have e3 : c * (4294967296 * Wp k) = c * 4294967296 * Wp k := by rw [Nat.mul_assoc]
  rw [Nat.mul_comm (Wp k) f]
  omega
theorem rplus_end {a b o : List Nat} {k q : Nat} (hk : o.length = k) (ha : a.length ≤ k) (hb : b.length ≤ k) (h : val o + q * Wp k = val (a.take k) + val (b.take k)) : val (o ++ [q]) = val a + val b := by
  rw [val_append, hk, val_one, Nat.mul_comm, h, val_take_all ha, val_take_all hb]
def rf (q x y : Nat) : Nat := (q + (x + y)) % 4294967296
def rc (q x y : Nat) : Nat := (q + (x + y)) / 4294967296
theorem rf_lt (q x y : Nat) : rf q x y < 4294967296 := Nat.mod_lt _ (by omega)
theorem rc_le {q x y : Nat} (hq : q ≤ 1) (hx : x < 4294967296) (hy : y < 4294967296) : rc q x y ≤ 1 := by unfold rc; omega

theorem word_k (A : Option Addr) (c n : Nat) (a : List Nat) (w : World) (i : Int) (k : Nat) (hi : i = (k : Int)) (hn : n = a.length) (ha : RW w w.heap.size A c a) :
    Calls Try.prog 58 #[.slice A n c, .int .i64 i] w fun e w' => e = .returned (.int .u64 (wd a k)) ∧ w = w' := by
  subst hi
  exact (word_any A c n a w (k : Int) (by omega) hn ha)

set_option maxHeartbeats 1000000 in
theorem rplus_any (A D : Option Addr) (c d n m : Nat) (a b : List Nat) (w : World) (hn : n = a.length) (hm : m = b.length) (ha : RW w w.heap.size A c a) (hb : RW w w.heap.size D d b) (hla : a.length ≤ 8796093022208) (hlb : b.length ≤ 8796093022208) :
    Calls Try.prog 31 #[.slice A n c, .slice D m d] w (RetW w (val a + val b)) := by
  subst hn hm
  have ba := ha.b32
  have bb := hb.b32
  go_enter Try.func31, Try.ntmps31
  go_wp2
  go_loopw [5, 6, 7] (fun sv cr i wr => ∃ (k q : Nat) (A' : Option Addr) (c' : Nat) (o : List Nat), (k ≤ a.length ∨ k ≤ b.length) ∧ i = .int .i64 (k : Int) ∧ q ≤ 1 ∧ cr = .int .u64 (q : Int) ∧ sv = .slice A' o.length c' ∧ OW wr w.heap.size A' c' o ∧ Hid (o.length = k) ∧
      Hid (val o + q * Wp k = val (a.take k) + val (b.take k)) ∧ Below w.heap.size w wr) (fun _ _ i _ => a.length + b.length - (intOf i).toNat)
  case atStart => exact ⟨0, 0, _, 0, [], .inl (Nat.zero_le _), rfl, by omega, rfl, rfl, OW.empty w, rfl, by show _ = _; simp [val], (Below.refl w.heap.size w).alloc (Nat.le_refl _) _⟩
  case round =>
    obtain ⟨k, q, A', c', o, hk, rfl, hq, rfl, rfl, hO, hol, hinv, hbel⟩ := hrel
    have hwx := wd_lt ba k
    have hwy := wd_lt bb k
    have ha1 := (ha.below hbel).more hbel.size
    have hb1 := (hb.below hbel).more hbel.size
    by_cases h0 : k < a.length ∨ k < b.length
    · have e1 : ((q : Int) + ((wd a k : Int) + (wd b k : Int))) % 4294967296 = (rf q (wd a k) (wd b k) : Int) := by unfold rf; omega
      have e2 : ((q : Int) + ((wd a k : Int) + (wd b k : Int))) / 4294967296 = (rc q (wd a k) (wd b k) : Int) := by unfold rc; omega
      have hst := Lib.hid (rplus_step hol.out hinv.out)
      have hrc := rc_le hq hwx hwy
      have hone := RW.one wr 53 (rf_lt q (wd a k) (wd b k))
      have hb2 : Below w.heap.size w (wr.alloc (.cells #[.int .u32 (rf q (wd a k) (wd b k) : Int)] 53)) := hbel.alloc hbel.size _
      have hol2 : o.length ≤ 17592186044416 := by have := hol.out; omega
      have hK : Hid ((o ++ [rf q (wd a k) (wd b k)]).length = k + 1) := by show _ = _; rw [List.length_append, hol.out]; rfl
      by_cases h00 : k < a.length
      · go_wp2_with fail
        refine (word_k _ _ _ a _ _ k rfl rfl ha1).mono ?_; rintro e w' ⟨rfl, rfl⟩
        go_wp2_with fail
        refine (word_k _ _ _ b _ _ k rfl rfl hb1).mono ?_; rintro e w' ⟨rfl, rfl⟩
        go_wp2_with (at_builtin; refine wp_appW _ rfl _ _ rfl w.heap.size _ _ _ o rfl rfl (hO.alloc _) _ _ _ [rf q (wd a k) (wd b k)] rfl rfl _ hone (by simp; omega) hb2.size ?_; intro A2 c2 w2 g1 g2 g3)
        go_roundw
        case rel => exact ⟨k + 1, _, A2, c2, _, by omega, by go_num, hrc, rfl, by rw [List.length_append]; rfl, g1, hK, hst, hb2.trans g3⟩
        case measure => simp [intOf]; omega
      · have h01 : k < b.length := by omega
        go_wp2_with fail
        refine (word_k _ _ _ a _ _ k rfl rfl ha1).mono ?_; rintro e w' ⟨rfl, rfl⟩
        go_wp2_with fail
        refine (word_k _ _ _ b _ _ k rfl rfl hb1).mono ?_; rintro e w' ⟨rfl, rfl⟩
        go_wp2_with (at_builtin; refine wp_appW _ rfl _ _ rfl w.heap.size _ _ _ o rfl rfl (hO.alloc _) _ _ _ [rf q (wd a k) (wd b k)] rfl rfl _ hone (by simp; omega) hb2.size ?_; intro A2 c2 w2 g1 g2 g3)
        go_roundw
        case rel => exact ⟨k + 1, _, A2, c2, _, by omega, by go_num, hrc, rfl, by rw [List.length_append]; rfl, g1, hK, hst, hb2.trans g3⟩
        case measure => simp [intOf]; omega
    · have h01 : ¬ k < a.length := by omega
      have h02 : ¬ k < b.length := by omega
      have hone := RW.one wr 53 (show q < 4294967296 by omega)
      have hb2 : Below w.heap.size w (wr.alloc (.cells #[.int .u32 (q : Int)] 53)) := hbel.alloc hbel.size _
      have hol2 : o.length ≤ 17592186044416 := by have := hol.out; omega
      have hfin := Lib.hid (rplus_end hol.out (by omega) (by omega) hinv.out)
      clear hk
      go_wp2_with (first
        | (at_builtin; refine wp_appW _ rfl _ _ rfl w.heap.size _ _ _ o rfl rfl (hO.alloc _) _ _ _ [q] rfl rfl _ hone (by simp; omega) hb2.size ?_; intro A2 c2 w2 g1 g2 g3)
        | (go_at_call 59; refine (rnorm_any _ _ _ (o ++ [q]) _ (by simp) g1.rw).mono ?_; rintro e w3 ⟨A3, c3, rfl, g4, g5⟩))
      go_ret
      rw [hfin.out] at g4 ⊢
      have hb3 := hb2.trans g3
      exact ⟨A3, c3, rfl, g4.base_le hb3.size, hb3.trans (g5.mono hb3.size)⟩

theorem rless_step {a b o : List Nat} {k q : Nat} (ha : B32 a) (hb : B32 b) (hq : q ≤ 1) (hk : o.length = k) (h : val o + val (b.take k) = val (a.take k) + q * Wp k) :
    val (o ++ [sdf32 (wd a k) (wd b k) q]) + val (b.take (k + 1)) = val (a.take (k + 1)) + bor32 (wd a k) (wd b k) q * Wp (k + 1) := by
  have e := sub_eq (wd_lt ha k) (wd_lt hb k) hq
  generalize sdf32 (wd a k) (wd b k) q = f at *
  generalize bor32 (wd a k) (wd b k) q = c at *
  rw [val_append, hk, val_take_succ' a, val_take_succ' b, Wp_succ, val_one]
  have e2 : (f + wd b k + q) * Wp k = (wd a k + c * 4294967296) * Wp k := by rw [e]
  rw [Nat.add_mul, Nat.add_mul, Nat.add_mul] at e2
  have e3 : c * (4294967296 * Wp k) = c * 4294967296 * Wp k := by rw [Nat.mul_assoc]
  rw [Nat.mul_comm (Wp k) f]
  omega
theorem rless_end {a b o : List Nat} {q : Nat} (ho : o.length = a.length) (hoB : B32 o) (hb : b.length ≤ a.length) (hle : val b ≤ val a)
    (h : val o + val (b.take a.length) = val (a.take a.length) + q * Wp a.length) : val o = val a - val b :=
  less_end ho hoB hb hle (by rw [val_take_all (Nat.le_of_eq ho)]; exact h)

set_option maxHeartbeats 1000000 in
theorem rless_any (A D : Option Addr) (c d n m : Nat) (a b : List Nat) (w : World) (hn : n = a.length) (hm : m = b.length) (ha : RW w w.heap.size A c a) (hb : RW w w.heap.size D d b) (hba2 : b.length ≤ a.length) (hle : val b ≤ val a) (hla : a.length ≤ 8796093022208) :
    Calls Try.prog 63 #[.slice A n c, .slice D m d] w (RetW w (val a - val b)) := by
  subst hn hm
  have ba := ha.b32
  have bb := hb.b32
  go_enter Try.func63, Try.ntmps63
  go_wp2
  go_loopw [5, 6, 7] (fun sv cr i wr => ∃ (k q : Nat) (A' : Option Addr) (c' : Nat) (o : List Nat), k ≤ a.length ∧ i = .int .i64 (k : Int) ∧ q ≤ 1 ∧ cr = .int .u64 (q : Int) ∧ sv = .slice A' o.length c' ∧ OW wr w.heap.size A' c' o ∧ Hid (o.length = k) ∧
      Hid (val o + val (b.take k) = val (a.take k) + q * Wp k) ∧ Below w.heap.size w wr) (fun _ _ i _ => a.length - (intOf i).toNat)
  case atStart => exact ⟨0, 0, _, 0, [], Nat.zero_le _, rfl, by omega, rfl, rfl, OW.empty w, rfl, by show _ = _; simp [val], (Below.refl w.heap.size w).alloc (Nat.le_refl _) _⟩
  case round =>
    obtain ⟨k, q, A', c', o, hk, rfl, hq, rfl, rfl, hO, hol, hinv, hbel⟩ := hrel
    have hwx := wd_lt ba k
    have hwy := wd_lt bb k
    have ha1 := (ha.below hbel).more hbel.size
    have hb1 := (hb.below hbel).more hbel.size
    by_cases h0 : k < a.length
    · have hst := Lib.hid (rless_step ba bb hq hol.out hinv.out)
      have hrc := bor_le (wd a k) (wd b k) q
      have hone := RW.one wr 53 (sdf_lt (wd a k) (wd b k) q)
      have hb2 : Below w.heap.size w (wr.alloc (.cells #[.int .u32 (sdf32 (wd a k) (wd b k) q : Int)] 53)) := hbel.alloc hbel.size _
      have hol2 : o.length ≤ 17592186044416 := by have := hol.out; omega
      have hK : Hid ((o ++ [sdf32 (wd a k) (wd b k) q]).length = k + 1) := by show _ = _; rw [List.length_append, hol.out]; rfl
      by_cases hlt : wd a k < wd b k + q
      · have hbor : Hid (bor32 (wd a k) (wd b k) q = 1) := by show _ = _; simp [bor32, hlt]
        rw [hbor.out] at hst hrc
        have e1 : ((wd a k : Int) + 4294967296 - ((wd b k : Int) + (q : Int))) = (sdf32 (wd a k) (wd b k) q : Int) := by unfold sdf32; omega
        go_wp2_with fail
        refine (word_k _ _ _ a _ _ k rfl rfl ha1).mono ?_; rintro e w' ⟨rfl, rfl⟩
        go_wp2_with fail
        refine (word_k _ _ _ b _ _ k rfl rfl hb1).mono ?_; rintro e w' ⟨rfl, rfl⟩
        go_wp2_with (at_builtin; refine wp_appW _ rfl _ _ rfl w.heap.size _ _ _ o rfl rfl (hO.alloc _) _ _ _ [sdf32 (wd a k) (wd b k) q] rfl rfl _ hone (by simp; omega) hb2.size ?_; intro A2 c2 w2 g1 g2 g3)
        go_roundw
        case rel => exact ⟨k + 1, 1, A2, c2, _, by omega, by go_num, hrc, rfl, by rw [List.length_append]; rfl, g1, hK, hst, hb2.trans g3⟩
        case measure => simp [intOf]; omega
      · have hbor : Hid (bor32 (wd a k) (wd b k) q = 0) := by show _ = _; simp [bor32, hlt]
        rw [hbor.out] at hst hrc
        have hd : decide (wd a k < wd b k + q) = false := by simp; omega
        have e1 : ((wd a k : Int) - ((wd b k : Int) + (q : Int))) = (sdf32 (wd a k) (wd b k) q : Int) := by unfold sdf32; omega
        go_wp2_with fail
        refine (word_k _ _ _ a _ _ k rfl rfl ha1).mono ?_; rintro e w' ⟨rfl, rfl⟩
        go_wp2_with fail
        refine (word_k _ _ _ b _ _ k rfl rfl hb1).mono ?_; rintro e w' ⟨rfl, rfl⟩
        go_wp2_with (at_builtin; refine wp_appW _ rfl _ _ rfl w.heap.size _ _ _ o rfl rfl (hO.alloc _) _ _ _ [sdf32 (wd a k) (wd b k) q] rfl rfl _ hone (by simp; omega) hb2.size ?_; intro A2 c2 w2 g1 g2 g3)
        go_roundw
        case rel => exact ⟨k + 1, 0, A2, c2, _, by omega, by go_num, hrc, rfl, by rw [List.length_append]; rfl, g1, hK, hst, hb2.trans g3⟩
        case measure => simp [intOf]; omega
    · obtain rfl : k = a.length := by omega
      have hfin := Lib.hid (rless_end hol.out hO.b32 hba2 hle hinv.out)
      have hO2 := hO.rw
      go_wp2_with (go_at_call 59; refine (rnorm_any _ _ _ o _ rfl hO2).mono ?_; rintro e w3 ⟨A3, c3, rfl, g4, g5⟩)
      go_ret
      rw [hfin.out] at g4 ⊢
      exact ⟨A3, c3, rfl, g4.base_le hbel.size, hbel.trans (g5.mono hbel.size)⟩
end Go.Proofs.Ytabcnpcfknlmlaa
