/- Merged texts: NatS, NatT, PlainE, NatU, RdS, RatT. -/
import Derived.Test.YtbgggepdlkbpoaaGreatDoorGF
import Derived.Test.YtbgggepdlkbpoaaGreatDoorGC
namespace Go.Proofs.YtbgggepdlkbpoaaGreatDoor
open Go.RowKit

theorem own_ne {w : World} {b1 b2 : Nat} {A1 A2 : Option Addr} {c1 c2 : Nat} {l : List Nat} {o : List UInt8} {g1 g2 : Nat} (h1 : OW w b1 A1 c1 l) (h2 : OB w b2 A2 c2 o) (e1 : A1 = some ⟨g1, 0, none⟩) (e2 : A2 = some ⟨g2, 0, none⟩) : g2 ≠ g1 := by
  subst e1 e2
  rintro rfl
  rcases h1.1.1.2 with ⟨h, _⟩ | ⟨g, cap, cur, h, _, hh, _⟩
  · cases h
  · rcases OL.form h2 with _ | _
    all_goals
      rcases h2.1.2 with ⟨h', _⟩ | ⟨g', cap', cur', h', _, hh', _⟩
      · cases h'
      · simp only [Value.slice.injEq, Option.some.injEq, Addr.mk.injEq, and_true, true_and] at h h'
        obtain ⟨rfl, _⟩ := h
        obtain ⟨rfl, _⟩ := h'
        rw [hh] at hh'
        simp at hh'
def Sv (l o : List Nat) (k r b : Nat) : Prop := o.length = l.length ∧ (∀ t, t < k → wd o t = wd l t) ∧ val (l.drop k) = val (o.drop k) * b + r
theorem Sv_step {l o : List Nat} {j r b : Nat} (hb : 0 < b) (hj : j < l.length) (h : Sv l o (j + 1) r b) : Sv l (o.set j (sdiv r (wd o j) b)) j (smod r (wd o j) b) b := by
  refine ⟨by rw [List.length_set]; exact h.1, fun t ht => ?_, ?_⟩
  · rw [wd_set_ne (by omega)]; exact h.2.1 t (by omega)
  · have := short_step hb hj h.1 h.2.2
    rw [h.2.1 j (by omega)]; exact this
theorem Sv_end {N r b : Nat} {o : List Nat} (hb : 0 < b) (hr : r < b) (h : Sv (digs N) o 0 r b) : val o = N / b ∧ r = N % b := by
  have h3 := h.2.2
  rw [List.drop_zero, List.drop_zero, val_digs] at h3
  exact short_end hb hr h3
theorem cat_div (r x d : Nat) : ((r : Int) * 4294967296 + (x : Int)) / (d : Int) = (sdiv r x d : Int) := by unfold sdiv; simp
theorem cat_mod (r x d : Nat) : ((r : Int) * 4294967296 + (x : Int)) % (d : Int) = (smod r x d : Int) := by unfold smod; simp
def RLeft (b N0 N : Nat) (o : List UInt8) : Prop := o ++ rdg b N = rdg b N0
theorem RLeft_step {b N0 N : Nat} {o : List UInt8} (hb : 2 ≤ b) (h : RLeft b N0 N o) (hN : N ≠ 0) : RLeft b N0 (N / b) (o ++ [dch (N % b)]) := by
  unfold RLeft at *
  rw [← h, rdg_pos hb hN]; simp

end Go.Proofs.YtbgggepdlkbpoaaGreatDoor
namespace Go.Proofs.YtbgggepdlkbpoaaGreatDoor
open Go.RowKit

def digL : List UInt8 := [48, 49, 50, 51, 52, 53, 54, 55, 56, 57, 97, 98, 99, 100, 101, 102, 103, 104, 105, 106, 107, 108, 109, 110, 111, 112, 113, 114, 115, 116, 117, 118, 119, 120, 121, 122]
def vk (b : Nat) : Int := Lib.indexByte digL (b ||| 32).toUInt8
/-- what the three tests of nat.Value come to -/
def vtest (b : Nat) : Bool := decide (10 ≤ vk b) && ((b ||| 32) != b || decide (97 ≤ b))
theorem value_facts : ∀ b : Fin 256, (vtest b.val = true → vk b.val = (dval b.val : Int)) ∧ (vtest b.val = false → dval b.val = if 48 ≤ b.val ∧ b.val ≤ 57 then b.val - 48 else 99) ∧ -1 ≤ vk b.val ∧ vk b.val ≤ 35 := by decide +kernel

theorem value_any (b : Nat) (w : World) (h : b < 256) : Calls Tryz.prog 84 #[.int .u8 (b : Int)] w fun e w' => e = .returned (.int .i64 (dval b)) ∧ w = w' := by
  obtain ⟨f1, f2, f3, f4⟩ := value_facts ⟨b, h⟩
  simp only at f1 f2 f3 f4
  have e1 : bits .or .u8 (b : Int) 32 = ((b ||| 32 : Nat) : Int) := u8_or_nat b 32 h (by omega)
  have hlt : b ||| 32 < 256 := Nat.or_lt_two_pow (n := 8) h (by omega)
  have hI := fun w => (Tryz.strings_IndexByte ⟨#[48, 49, 50, 51, 52, 53, 54, 55, 56, 57, 97, 98, 99, 100, 101, 102, 103, 104, 105, 106, 107, 108, 109, 110, 111, 112, 113, 114, 115, 116, 117, 118, 119, 120, 121, 122]⟩ ((b ||| 32 : Nat) : Int) w)
  have hv : Lib.indexByte (⟨#[48, 49, 50, 51, 52, 53, 54, 55, 56, 57, 97, 98, 99, 100, 101, 102, 103, 104, 105, 106, 107, 108, 109, 110, 111, 112, 113, 114, 115, 116, 117, 118, 119, 120, 121, 122]⟩ : ByteArray).data.toList ((b ||| 32 : Nat) : Int).toNat.toUInt8 = vk b := rfl
  rw [hv] at hI
  unfold vtest at f1 f2
  have F1 := Lib.hid f1
  have F2 := Lib.hid f2
  clear hv f1 f2
  generalize vk b = k at *
  generalize hob : b ||| 32 = o at *
  have HO := Lib.hid hob
  clear hob
  by_cases c1 : 10 ≤ k
  · have t1 : decide ((10 : Int) ≤ k) = true := by simpa using c1
    by_cases c2 : o = b
    · have t2 : ((o : Int) != (b : Int)) = false := by simp [c2]
      by_cases c3 : 97 ≤ b
      · have t3 : decide ((97 : Int) ≤ (b : Int)) = true := by simp; omega
        have HV : Hid (k = (dval b : Int)) := F1.out (by simp [c1, c3])
        clear c2
        go_enter Tryz.func84, Tryz.ntmps84
        go_wp2_with (go_at_call 97; refine (hI _).mono ?_; rintro e w' ⟨rfl, rfl⟩)
        go_ret
        exact ⟨ret_int HV.out, rfl⟩
      · have t3 : decide ((97 : Int) ≤ (b : Int)) = false := by simp; omega
        have HV : Hid (dval b = if 48 ≤ b ∧ b ≤ 57 then b - 48 else 99) := F2.out (by simp [c2, c3])
        clear c2
        by_cases c4 : 48 ≤ b
        · have t4 : decide ((48 : Int) ≤ (b : Int)) = true := by simp; omega
          by_cases c5 : b ≤ 57
          · have t5 : decide ((b : Int) ≤ 57) = true := by simp; omega
            go_enter Tryz.func84, Tryz.ntmps84
            go_wp2_with (go_at_call 97; refine (hI _).mono ?_; rintro e w' ⟨rfl, rfl⟩)
            go_ret
            exact ⟨ret_int (by rw [HV.out, if_pos ⟨c4, c5⟩]; omega), rfl⟩
          · have t5 : decide ((b : Int) ≤ 57) = false := by simp; omega
            go_enter Tryz.func84, Tryz.ntmps84
            go_wp2_with (go_at_call 97; refine (hI _).mono ?_; rintro e w' ⟨rfl, rfl⟩)
            go_ret
            exact ⟨ret_int (by rw [HV.out, if_neg (by omega)]; rfl), rfl⟩
        · have t4 : decide ((48 : Int) ≤ (b : Int)) = false := by simp; omega
          go_enter Tryz.func84, Tryz.ntmps84
          go_wp2_with (go_at_call 97; refine (hI _).mono ?_; rintro e w' ⟨rfl, rfl⟩)
          go_ret
          exact ⟨ret_int (by rw [HV.out, if_neg (by omega)]; rfl), rfl⟩
    · have t2 : ((o : Int) != (b : Int)) = true := by simp; omega
      have HV : Hid (k = (dval b : Int)) := F1.out (by simp [c1, c2])
      go_enter Tryz.func84, Tryz.ntmps84
      go_wp2_with (go_at_call 97; refine (hI _).mono ?_; rintro e w' ⟨rfl, rfl⟩)
      go_ret
      exact ⟨ret_int HV.out, rfl⟩
  · have t1 : decide ((10 : Int) ≤ k) = false := by simp; omega
    have HV : Hid (dval b = if 48 ≤ b ∧ b ≤ 57 then b - 48 else 99) := F2.out (by simp [c1])
    by_cases c4 : 48 ≤ b
    · have t4 : decide ((48 : Int) ≤ (b : Int)) = true := by simp; omega
      by_cases c5 : b ≤ 57
      · have t5 : decide ((b : Int) ≤ 57) = true := by simp; omega
        go_enter Tryz.func84, Tryz.ntmps84
        go_wp2_with (go_at_call 97; refine (hI _).mono ?_; rintro e w' ⟨rfl, rfl⟩)
        go_ret
        exact ⟨ret_int (by rw [HV.out, if_pos ⟨c4, c5⟩]; omega), rfl⟩
      · have t5 : decide ((b : Int) ≤ 57) = false := by simp; omega
        go_enter Tryz.func84, Tryz.ntmps84
        go_wp2_with (go_at_call 97; refine (hI _).mono ?_; rintro e w' ⟨rfl, rfl⟩)
        go_ret
        exact ⟨ret_int (by rw [HV.out, if_neg (by omega)]; rfl), rfl⟩
    · have t4 : decide ((48 : Int) ≤ (b : Int)) = false := by simp; omega
      go_enter Tryz.func84, Tryz.ntmps84
      go_wp2_with (go_at_call 97; refine (hI _).mono ?_; rintro e w' ⟨rfl, rfl⟩)
      go_ret
      exact ⟨ret_int (by rw [HV.out, if_neg (by omega)]; rfl), rfl⟩

theorem match_facts : ∀ b : Fin 256, ∀ n : Fin 36, (((b.val == (dch n.val).toNat) || (decide (10 ≤ n.val) && (b.val == (dch n.val).toNat - 32))) = true ↔ dval b.val = n.val) := by decide +kernel
theorem dch_ge {n : Nat} (h : n < 36) : 48 ≤ (dch n).toNat ∧ (dch n).toNat < 256 := by rw [dch_nat h]; split <;> omega

end Go.Proofs.YtbgggepdlkbpoaaGreatDoor
namespace Go.Proofs.YtbgggepdlkbpoaaGreatDoor

/-- the byte at a place, as a number -/
def byt (l : List UInt8) (k : Nat) : Nat := (l.getD k 0).toNat
theorem byt_lt (l : List UInt8) (k : Nat) : byt l k < 256 := UInt8.toNat_lt _
/-- the number that digits are, behind acc -/
def rdv (b acc : Nat) (l : List UInt8) : Nat := l.foldl (fun n c => n * b + dval c.toNat) acc
theorem rdv_take {b : Nat} {l : List UInt8} {k : Nat} (h : k < l.length) : rdv b 0 (l.take (k + 1)) = rdv b 0 (l.take k) * b + dval (byt l k) := by
  unfold rdv byt
  rw [List.take_succ_eq_append_getElem h, List.foldl_append]
  simp [List.getD_eq_getElem?_getD, h]
theorem rdv_mono {b acc : Nat} (hb : 1 ≤ b) (l : List UInt8) : acc ≤ rdv b acc l := by
  induction l generalizing acc with
  | nil => exact Nat.le_refl _
  | cons c l ih =>
    have h1 : acc * 1 ≤ acc * b := Nat.mul_le_mul_left _ hb
    have h2 := ih (acc := acc * b + dval c.toNat)
    show acc ≤ rdv b (acc * b + dval c.toNat) l
    omega
theorem rdv_le {b : Nat} (hb : 1 ≤ b) (l : List UInt8) (k : Nat) : rdv b 0 (l.take k) ≤ rdv b 0 l := by
  conv => rhs; rw [← List.take_append_drop k l]
  unfold rdv
  rw [List.foldl_append]
  exact rdv_mono hb _
theorem rdv_rdg {b : Nat} (hb : 2 ≤ b) (hb2 : b ≤ 36) (n : Nat) : rdv b 0 (rdg b n).reverse = n ∧ ∀ c ∈ rdg b n, dval c.toNat < b := by
  induction n using Nat.strongRecOn with
  | ind n ih =>
    by_cases h0 : n = 0
    · subst h0; rw [rdg_zero]; exact ⟨rfl, fun c hc => by cases hc⟩
    · have hm : n % b < b := Nat.mod_lt _ (by omega)
      obtain ⟨i1, i2⟩ := ih (n / b) (Nat.div_lt_self (by omega) (by omega))
      rw [rdg_pos hb h0]
      constructor
      · rw [List.reverse_cons]
        unfold rdv at *
        rw [List.foldl_append, i1]
        simp only [List.foldl_cons, List.foldl_nil]
        rw [dval_dch (by omega), Nat.mul_comm]
        exact Nat.div_add_mod n b
      · intro c hc
        rcases List.mem_cons.1 hc with rfl | hc
        · rw [dval_dch (by omega)]; exact hm
        · exact i2 c hc
theorem rdv_txt {b : Nat} (hb : 2 ≤ b) (hb2 : b ≤ 36) (n : Nat) : rdv b 0 (txt b n) = n ∧ (∀ c ∈ txt b n, dval c.toNat < b) ∧ txt b n ≠ [] := by
  unfold txt
  split
  · rename_i h; subst h
    refine ⟨by show 0 * b + dval (48 : UInt8).toNat = 0; rw [Nat.zero_mul]; decide, fun c hc => ?_, by simp⟩
    rw [List.mem_singleton.1 hc]
    have : dval (48 : UInt8).toNat = 0 := by decide
    rw [this]; omega
  · rename_i h
    obtain ⟨h1, h2⟩ := rdv_rdg hb hb2 n
    refine ⟨h1, fun c hc => h2 c (List.mem_reverse.1 hc), ?_⟩
    rw [rdg_pos hb h]; simp
/-- all bytes are digits -/
def okd (b : Nat) (l : List UInt8) : Bool := l.all fun c => decide (dval c.toNat < b)
theorem okd_take {b : Nat} {l : List UInt8} {k : Nat} (h : k < l.length) : okd b (l.take (k + 1)) = (okd b (l.take k) && decide (dval (byt l k) < b)) := by
  unfold okd byt
  rw [List.take_succ_eq_append_getElem h, List.all_append]
  simp [List.getD_eq_getElem?_getD, h]
theorem okd_false {b : Nat} {l : List UInt8} {k : Nat} (h : k < l.length) (hd : ¬ dval (byt l k) < b) : okd b l = false := by
  unfold okd
  rw [List.all_eq_false]
  refine ⟨l[k], List.getElem_mem h, ?_⟩
  unfold byt at hd
  simp [List.getD_eq_getElem?_getD, h] at hd
  simp; omega

/-! ### times a digit, and a digit more -/
def mcf (c x b : Nat) : Nat := (c + x * b) % 4294967296
def mcc (c x b : Nat) : Nat := (c + x * b) / 4294967296
theorem mcf_lt (c x b : Nat) : mcf c x b < 4294967296 := Nat.mod_lt _ (by omega)
theorem mcc_lt {c x b : Nat} (hc : c ≤ 99) (hx : x < 4294967296) (hb : b ≤ 36) : mcc c x b ≤ 99 := by
  have := Nat.mul_le_mul (show x ≤ 4294967295 by omega) hb
  unfold mcc; omega
theorem mcI {c x b : Nat} (_hc : c ≤ 99) (hx : x < 4294967296) (hb : b ≤ 36) : 0 ≤ (x : Int) * (b : Int) ∧ (x : Int) * (b : Int) ≤ 154618822620 := by
  have h := Nat.mul_le_mul (show x ≤ 4294967295 by omega) hb
  rw [← Int.natCast_mul]
  generalize x * b = p at *
  omega
theorem mcf_int (c x b : Nat) : ((c : Int) + (x : Int) * (b : Int)) % 4294967296 = (mcf c x b : Int) := by
  unfold mcf; rw [← Int.natCast_mul]; generalize x * b = p; omega
theorem mcc_int (c x b : Nat) : ((c : Int) + (x : Int) * (b : Int)) / 4294967296 = (mcc c x b : Int) := by
  unfold mcc; rw [← Int.natCast_mul]; generalize x * b = p; omega
/-- as far as the place j the words are turned -/
def Mul1 (l o : List Nat) (j b d q : Nat) : Prop := o.length = l.length ∧ (∀ t, j ≤ t → wd o t = wd l t) ∧ val (o.take j) + q * Wp j = d + val (l.take j) * b
theorem Mul1_step {l o : List Nat} {j b d q : Nat} (hj : j < o.length) (h : Mul1 l o j b d q) : Mul1 l (o.set j (mcf q (wd o j) b)) (j + 1) b d (mcc q (wd o j) b) := by
  refine ⟨by rw [List.length_set]; exact h.1, fun t ht => by rw [wd_set_ne (by omega)]; exact h.2.1 t (by omega), ?_⟩
  have h3 := h.2.2
  have hw := h.2.1 j (Nat.le_refl _)
  rw [val_take_set hj, val_take_succ' l, Wp_succ, ← hw]
  have e : mcf q (wd o j) b + mcc q (wd o j) b * 4294967296 = q + wd o j * b := by unfold mcf mcc; omega
  generalize mcf q (wd o j) b = f at *
  generalize mcc q (wd o j) b = g at *
  have e2 : (f + g * 4294967296) * Wp j = (q + wd o j * b) * Wp j := by rw [e]
  rw [Nat.add_mul, Nat.add_mul] at e2
  have e3 : g * (4294967296 * Wp j) = g * 4294967296 * Wp j := by rw [Nat.mul_assoc]
  have e4 : (val (l.take j) + wd o j * Wp j) * b = val (l.take j) * b + wd o j * b * Wp j := by
    rw [Nat.add_mul]; congr 1; rw [Nat.mul_assoc, Nat.mul_assoc, Nat.mul_comm (Wp j)]
  rw [e3, e4]
  omega
theorem Mul1_end {N b d q : Nat} {o : List Nat} (hb : 1 ≤ b) (hq : q < 4294967296) (hB : B32 o) (h : Mul1 (digs N) o (digs N).length b d q) :
    (q = 0 → o = digs (N * b + d)) ∧ (q ≠ 0 → o ++ [q] = digs (N * b + d)) := by
  have h3 := h.2.2
  have hl := h.1
  rw [List.take_length, val_digs, val_take_all (by omega)] at h3
  constructor
  · intro h0
    subst h0
    rw [Nat.zero_mul, Nat.add_zero] at h3
    have h4 : val o = N * b + d := by omega
    rw [← h4]
    refine (digs_val hB ?_).symm
    by_cases hz : o.length = 0
    · left; exact List.eq_nil_of_length_eq_zero hz
    · right
      intro hw
      obtain ⟨j, hj⟩ : ∃ j, o.length = j + 1 := ⟨o.length - 1, by omega⟩
      rw [hj, Nat.add_sub_cancel] at hw
      have h5 := val_take_succ (l := o) (k := j) (by omega)
      rw [← hj, List.take_length, hw] at h5
      have h6 := val_take_lt hB j
      have h7 : Wp j ≤ N := digs_len_lt.1 (by omega)
      have h8 : N * 1 ≤ N * b := Nat.mul_le_mul_left _ hb
      omega
  · intro h0
    have h4 : val (o ++ [q]) = N * b + d := by rw [val_append, val_one, Nat.mul_comm, hl]; omega
    rw [← h4]
    refine (digs_val (B32_append hB (B32_cons hq B32_nil)) ?_).symm
    right
    rw [List.length_append, List.length_singleton, Nat.add_sub_cancel]
    have := wd_append_right (a := o) (b := [q]) (k := 0)
    rw [Nat.add_zero, wd_zero] at this
    rw [this]; exact h0
end Go.Proofs.YtbgggepdlkbpoaaGreatDoor
namespace Go.Proofs.YtbgggepdlkbpoaaGreatDoor
open Go.RowKit

def readD (l : List UInt8) (b : Nat) : Nat × Int := if okd b l then (if l.length > 16384 then (0, 4) else fitA (rdv b 0 l)) else (0, 5)
def readA (l : List UInt8) (b : Int) : Nat × Int :=
  if b < 2 ∨ b > 36 then (0, 1) else if l = [] then (0, 5) else readD l b.toNat
theorem s_at {s : ByteArray} {k : Nat} (h : k < s.size) : (s[k]'h).toNat = byt s.data.toList k := by
  unfold byt
  have h2 : k < s.data.toList.length := by rw [Array.length_toList]; exact h
  rw [List.getD_eq_getElem?_getD, List.getElem?_eq_getElem h2]
  rfl
theorem s_len (s : ByteArray) : s.data.toList.length = s.size := by rw [Array.length_toList]; rfl

theorem ne_empty {s : ByteArray} (h : s.size ≠ 0) : s.toList.isEmpty = false := by
  rw [List.isEmpty_eq_false_iff]
  intro h1
  have := (toList_nil_iff_emptyBytes s).1 h1
  subst this; exact h rfl
theorem readD_bad {l : List UInt8} {b k : Nat} (h : k < l.length) (hd : ¬ dval (byt l k) < b) : readD l b = (0, 5) := by unfold readD; rw [okd_false h hd]; rfl
theorem readD_long {l : List UInt8} {b : Nat} (h : okd b l = true) (hl : l.length > 16384) : readD l b = (0, 4) := by unfold readD; rw [h, if_pos rfl, if_pos hl]
theorem readD_fit {l : List UInt8} {b : Nat} (h : okd b l = true) (hl : ¬ l.length > 16384) : readD l b = fitA (rdv b 0 l) := by unfold readD; rw [h, if_pos rfl, if_neg hl]
theorem readD_large {l : List UInt8} {b k : Nat} (hb : 1 ≤ b) (h : okd b l = true) (hl : ¬ l.length > 16384) (hk : 512 < (digs (rdv b 0 (l.take k))).length) : readD l b = (0, 4) := by
  rw [readD_fit h hl]
  unfold fitA
  rw [if_neg]
  have h1 := digs_len_lt.1 hk
  have h2 := rdv_le hb l k
  have h3 := digs_len_lt.2 (Nat.le_trans h1 h2)
  omega

set_option maxRecDepth 100000 in
set_option maxHeartbeats 4000000 in
theorem read_core (s : ByteArray) (r : Nat) (w : World) (hs : s.size ≤ 140737488351232) (hr1 : 2 ≤ r) (hr2 : r ≤ 36) (h3 : s.size ≠ 0) :
    Calls Tryz.prog 85 #[.string s, .int .i64 (r : Int)] w (RetE w (readD s.data.toList r)) := by
  have t1 := ne_empty h3
  have hsl := s_len s
  have HSL := Lib.hid hsl
  clear hsl
  go_enter Tryz.func85, Tryz.ntmps85
  go_wp2_with fail
  go_loop [22] (fun iv => ∃ k : Nat, k ≤ s.size ∧ iv = .int .i64 (k : Int) ∧ Hid (okd r (s.data.toList.take k) = true)) (fun iv => (s.size - intOf iv).toNat)
  case atStart => exact ⟨0, Nat.zero_le _, rfl, rfl⟩
  case round =>
    obtain ⟨k, hk, rfl, hok⟩ := hrel
    by_cases h0 : k < s.size
    · have e1 := s_at h0
      have hv := value_any (byt s.data.toList k) w (byt_lt _ _)
      have hdl := dval_le (byt s.data.toList k)
      by_cases hd : dval (byt s.data.toList k) < r
      · have t2 : decide (r ≤ dval (byt s.data.toList k)) = false := by simp; omega
        have hst : Hid (okd r (s.data.toList.take (k + 1)) = true) := by
          show _ = _
          rw [okd_take (by rw [HSL.out]; exact h0), hok.out, decide_eq_true hd]; rfl
        go_wp2_with (go_at_call 84; refine hv.mono ?_; rintro e w' ⟨rfl, rfl⟩)
        go_round
        case rel => exact ⟨k + 1, by omega, by go_num, hst⟩
        case measure => simp [intOf]; omega
      · have t2 : decide (r ≤ dval (byt s.data.toList k)) = true := by simp; omega
        have hR := Lib.hid (readD_bad (l := s.data.toList) (k := k) (by rw [HSL.out]; exact h0) hd)
        go_wp2_with (go_at_call 84; refine hv.mono ?_; rintro e w' ⟨rfl, rfl⟩)
        go_ret2
        rw [hR.out]
        exact ret_nil 5 (Below.refl _ _)
    · obtain rfl : k = s.size := by omega
      have hok2 : okd r s.data.toList = true := by have := hok.out; rw [← HSL.out, List.take_length] at this; exact this
      have HOK := Lib.hid hok2
      by_cases hlong : s.size > 16384
      · have hR := Lib.hid (readD_long hok2 (by rw [HSL.out]; exact hlong))
        clear hok2
        go_wp2_with fail
        go_ret2
        rw [hR.out]
        exact ret_nil 4 (Below.refl _ _)
      · have hlong2 : s.size ≤ 16384 := by omega
        clear hok2 hok hlong
        go_wp2_with fail
        go_loopw [7, 37] (fun ov iv wr => ∃ (k : Nat) (A1 : Option Addr) (c1 : Nat), k ≤ s.size ∧ iv = .int .i64 (k : Int) ∧ ov = .slice A1 (digs (rdv r 0 (s.data.toList.take k))).length c1 ∧ OW wr w.heap.size A1 c1 (digs (rdv r 0 (s.data.toList.take k))) ∧ (digs (rdv r 0 (s.data.toList.take k))).length ≤ 512 ∧ Below w.heap.size w wr) (fun _ iv _ => (s.size - intOf iv).toNat)
        case atStart => exact ⟨0, none, 0, Nat.zero_le _, rfl, by rw [show rdv r 0 (s.data.toList.take 0) = 0 from rfl, digs_zero]; rfl, by rw [show rdv r 0 (s.data.toList.take 0) = 0 from rfl, digs_zero]; exact OW.nil _ _, by rw [show rdv r 0 (s.data.toList.take 0) = 0 from rfl, digs_zero]; simp, Below.refl _ _⟩
        case round =>
          obtain ⟨k, A1, c1, hk, rfl, rfl, hO, hol, hbel⟩ := hrel
          obtain ⟨wo, rfl⟩ : ∃ wo : World, wo = wr := ⟨_, rfl⟩
          by_cases h0 : k < s.size
          · have e1 := s_at h0
            have hv := fun w => value_any (byt s.data.toList k) w (byt_lt _ _)
            have hdl := dval_le (byt s.data.toList k)
            have hst := Lib.hid (rdv_take (b := r) (l := s.data.toList) (k := k) (by rw [HSL.out]; exact h0))
            have hlg := Lib.hid (fun h => readD_large (k := k + 1) (by omega : 1 ≤ r) HOK.out (by rw [HSL.out]; omega) h)
            rw [hst.out] at hlg
            have hlb := hO.big
            generalize hN : rdv r 0 (s.data.toList.take k) = N at *
            have HN := Lib.hid hN
            clear hN
            go_wp2_with (go_at_call 84; refine (hv _).mono ?_; rintro e w' ⟨rfl, rfl⟩)
            go_loopw [9, 47] (fun cv jv wr => ∃ (j q : Nat) (o : List Nat), j ≤ (digs N).length ∧ jv = .int .i64 (j : Int) ∧ q ≤ 99 ∧ cv = .int .u64 (q : Int) ∧ OW wr w.heap.size A1 c1 o ∧ Hid (Mul1 (digs N) o j r (dval (byt s.data.toList k)) q) ∧ Below w.heap.size w wr) (fun _ jv _ => ((digs N).length - intOf jv).toNat)
            case atStart => exact ⟨0, dval (byt s.data.toList k), _, Nat.zero_le _, rfl, hdl, rfl, hO, ⟨rfl, fun t _ => rfl, by simp [val, Wp_zero]⟩, hbel⟩
            case round =>
              obtain ⟨j, q, o, hj, rfl, hq, rfl, hO, hM, hbel⟩ := hrel
              obtain ⟨wi, rfl⟩ : ∃ wi : World, wi = wr := ⟨_, rfl⟩
              by_cases hjl : j < (digs N).length
              · have hok : j < o.length := by have := hM.out.1; omega
                rcases hO.form with ⟨_, _, he⟩ | ⟨g, rfl, hg1, hg2, _⟩
                · rw [he] at hok; simp at hok
                · have hoc := hO.cell hok
                  have hfz := hO.frozen j
                  have hwx := wd_lt hO.b32 j
                  obtain ⟨hm0, hm1⟩ := mcI hq hwx hr2
                  have e2 := mcf_int q (wd o j) r
                  have e3 := mcc_int q (wd o j) r
                  have hcl := mcc_lt hq hwx hr2
                  have hset := hO.set j (mcf_lt q (wd o j) r)
                  have hst2 := Lib.hid (Mul1_step hok hM.out)
                  have hbel2 := hbel.setCell (p := ⟨g, j, none⟩) hg1 (.int .u32 (mcf q (wd o j) r : Nat))
                  go_wp2
                  go_roundw
                  case rel => exact ⟨j + 1, _, _, by omega, by go_num, hcl, rfl, hset, hst2, hbel2⟩
                  case measure => simp [intOf]; omega
              · obtain rfl : j = (digs N).length := by omega
                obtain ⟨f1, f2⟩ := Mul1_end (by omega) (by omega) hO.b32 hM.out
                have hol2 : o.length = (digs N).length := hM.out.1
                have HOL := Lib.hid hol2
                have F1 := Lib.hid f1
                have F2 := Lib.hid f2
                clear f1 f2 hol2
                by_cases hq0 : q = 0
                · have HE := Lib.hid (F1.out hq0)
                  subst hq0
                  go_wp2_with fail
                  go_roundw
                  case rel => exact ⟨k + 1, A1, c1, by omega, by go_num, by rw [hst.out, ← HE.out, HOL.out], by rw [hst.out, ← HE.out]; exact hO, by rw [hst.out, ← HE.out, HOL.out]; exact hol, hbel⟩
                  case measure => simp [intOf]; omega
                · have hq1 : 0 < q := by omega
                  have HE := Lib.hid (F2.out hq0)
                  have hone := RW.one wi 55 (show q < 4294967296 by omega)
                  have hb2 : Below w.heap.size w (wi.alloc (.cells #[.int .u32 (q : Int)] 55)) := hbel.alloc hbel.size _
                  have hlen : (o ++ [q]).length = (digs N).length + 1 := by rw [List.length_append, HOL.out]; rfl
                  have HLEN := Lib.hid hlen
                  have hOb := hO.1.1
                  clear hlen hOb hq0
                  have hO' : OL 55 fw (wi.alloc (.cells #[.int .u32 (q : Int)] 55)) w.heap.size A1 c1 o := hO.1.alloc _
                  have hOl : (digs N).length = o.length := HOL.out.symm
                  have HOL2 := Lib.hid hOl
                  clear hOl
                  by_cases hbig : 512 < (digs N).length + 1
                  · have hR := Lib.hid (hlg.out (by rw [← HE.out, HLEN.out]; exact hbig))
                    go_wp2_with (at_builtin; refine wp_appW _ rfl _ _ rfl w.heap.size _ _ _ o rfl HOL2.out ⟨hO', hO.b32⟩ _ _ _ [q] rfl rfl _ hone (by rw [HOL.out]; simp; omega) hb2.size ?_; intro A2 c2 w2 g1 g2 g3; rw [HLEN.out])
                    go_ret2
                    rw [hR.out]
                    exact ret_nil 4 (hb2.trans g3)
                  · go_wp2_with (at_builtin; refine wp_appW _ rfl _ _ rfl w.heap.size _ _ _ o rfl HOL2.out ⟨hO', hO.b32⟩ _ _ _ [q] rfl rfl _ hone (by rw [HOL.out]; simp; omega) hb2.size ?_; intro A2 c2 w2 g1 g2 g3; rw [HLEN.out])
                    go_roundw
                    case rel => exact ⟨k + 1, A2, c2, by omega, by go_num, by rw [hst.out, ← HE.out, HLEN.out], by rw [hst.out, ← HE.out]; exact g1, by rw [hst.out, ← HE.out, HLEN.out]; omega, hb2.trans g3⟩
                    case measure => simp [intOf]; omega
          · obtain rfl : k = s.size := by omega
            have hfull : s.data.toList.take s.size = s.data.toList := by rw [← HSL.out, List.take_length]
            rw [hfull] at hO hol
            have hR : Hid (readD s.data.toList r = (rdv r 0 s.data.toList, 0)) := by
              show _ = _
              rw [readD_fit HOK.out (by rw [HSL.out]; omega)]
              unfold fitA; rw [if_pos hol]
            have HF := Lib.hid hfull
            clear hfull
            go_wp2_with fail
            go_ret2
            rw [hR.out, HF.out]
            exact ⟨A1, c1, rfl, hO, hbel⟩

set_option maxRecDepth 100000 in
set_option maxHeartbeats 4000000 in
theorem read_any (s : ByteArray) (b : Int) (w : World) (hs : s.size ≤ 140737488351232) :
    Calls Tryz.prog 85 #[.string s, .int .i64 b] w (RetE w (readA s.data.toList b)) := by
  unfold readA
  by_cases h1 : b < 2
  · rw [if_pos (Or.inl h1)]
    go_enter Tryz.func85, Tryz.ntmps85
    go_wp2_with fail
    go_ret2
    exact ret_nil 1 (Below.refl _ _)
  · by_cases h2 : b > 36
    · rw [if_pos (Or.inr h2)]
      go_enter Tryz.func85, Tryz.ntmps85
      go_wp2_with fail
      go_ret2
      exact ret_nil 1 (Below.refl _ _)
    · rw [if_neg (by omega)]
      obtain ⟨r, rfl⟩ := Int.eq_ofNat_of_zero_le (show 0 ≤ b by omega)
      rw [Int.toNat_natCast]
      have hr1 : 2 ≤ r := by omega
      have hr2 : r ≤ 36 := by omega
      by_cases h3 : s.size = 0
      · have hl : s.data.toList = [] := List.eq_nil_of_length_eq_zero (by rw [s_len]; exact h3)
        rw [if_pos hl]
        have hse : s = ⟨#[]⟩ := by
          cases s with
          | mk d => congr 1; exact Array.eq_empty_of_size_eq_zero h3
        subst hse
        go_enter Tryz.func85, Tryz.ntmps85
        go_wp2_with fail
        go_ret2
        exact ret_nil 5 (Below.refl _ _)
      · have hl : s.data.toList ≠ [] := fun h => h3 (by rw [← s_len, h]; rfl)
        rw [if_neg hl]
        exact read_core s r w hs hr1 hr2 h3
end Go.Proofs.YtbgggepdlkbpoaaGreatDoor
namespace Go.Proofs.YtbgggepdlkbpoaaGreatDoor

def isDr (r : Nat) (c : UInt8) : Bool := decide (dval c.toNat < r)
def rdr (r : Nat) (ds : List UInt8) : List Nat × Int := (digs (readA ds (r : Int)).1, (readA ds (r : Int)).2)
def mkr (neg : Bool) (t b : List Nat) : Rw := rwq (ratN neg (val t) (val b))
theorem rdr_err {r : Nat} (h1 : 2 ≤ r) (h2 : r ≤ 36) (ds : List UInt8) (hn : ds ≠ []) (ha : ds.all (isDr r) = true) : (rdr r ds).2 = 0 ∨ (rdr r ds).2 = 4 := by
  unfold rdr readA
  rw [if_neg (by omega), if_neg hn, Int.toNat_natCast]
  have hk : okd r ds = true := ha
  by_cases hl : ds.length > 16384
  · rw [readD_long hk hl]; exact .inr rfl
  · rw [readD_fit hk hl]
    unfold fitA
    split
    · exact .inl rfl
    · exact .inr rfl
theorem num_body_r {r : Nat} (h1 : 2 ≤ r) (h2 : r ≤ 36) (s : List UInt8) :
    (bodyR (isDr r) (rdr r) mkr (rwq 0) s = none → (numP (isDr r) (rdr r) mkr (rwq 0) s 0).2.2.1 = false) ∧
    (∀ re im e, bodyR (isDr r) (rdr r) mkr (rwq 0) s = some (re, im, e) → ∃ re' im', numP (isDr r) (rdr r) mkr (rwq 0) s 0 = (re', im', true, e) ∧ (e = 0 → re' = re ∧ im' = im)) :=
  num_body (rdr_err h1 h2) s
theorem digT_r {r : Nat} (h1 : 2 ≤ r) (h2 : r ≤ 16) : DigT (isDr r) (rdr r) (txt r) := by
  refine ⟨fun n c hc => decide_eq_true ((rdv_txt h1 (by omega) n).2.1 c hc), fun n => (rdv_txt h1 (by omega) n).2.2, ?_⟩
  unfold isDr
  have e1 : dval (43 : UInt8).toNat = 99 := by decide
  have e2 : dval (45 : UInt8).toNat = 99 := by decide
  have e3 : dval (47 : UInt8).toNat = 99 := by decide
  have e4 : dval (105 : UInt8).toNat = 18 := by decide
  have e5 : dval (73 : UInt8).toNat = 18 := by decide
  rw [e1, e2, e3, e4, e5]
  exact ⟨decide_eq_false (by omega), decide_eq_false (by omega), decide_eq_false (by omega), decide_eq_false (by omega), decide_eq_false (by omega)⟩
theorem txt_lenK {r : Nat} (h1 : 2 ≤ r) {n k : Nat} (hk : 1 ≤ k) (h : n < 2 ^ k) : (txt r n).length ≤ k := by
  unfold txt
  split
  · simpa using hk
  · rw [List.length_reverse]; exact rdg_len h1 n k h
theorem wp_two (k : Nat) : Wp k = 2 ^ (32 * k) := by rw [Nat.pow_mul]; rfl
theorem rdr_txt {r : Nat} (h1 : 2 ≤ r) (h2 : r ≤ 36) {n : Nat} (hn : (digs n).length ≤ 512) : rdr r (txt r n) = (digs n, 0) := by
  obtain ⟨e1, e2, e3⟩ := rdv_txt h1 h2 n
  have hk : okd r (txt r n) = true := List.all_eq_true.2 fun c hc => decide_eq_true (e2 c hc)
  have hl : ¬ (txt r n).length > 16384 := by
    have h3 := digs_len_le.1 hn
    rw [wp_two] at h3
    have := txt_lenK h1 (k := 32 * 512) (by omega) h3
    omega
  unfold rdr readA
  rw [if_neg (by omega), if_neg e3, Int.toNat_natCast, readD_fit hk hl, e1]
  unfold fitA
  rw [if_pos hn]
theorem mkr_self (x : Rat) : mkr (qn x) (digs (qt x)) (digs (qd x)) = rwq x := by
  unfold mkr
  rw [val_digs, val_digs, q_self]
/-- the text of a number that fits, read, is the number -/
theorem text_read {r : Nat} (h1 : 2 ≤ r) (h2 : r ≤ 16) {p q : Rat} (hp : qw p ≤ 512) (hq : qw q ≤ 512) : numP (isDr r) (rdr r) mkr (rwq 0) (numT (txt r) p q) 0 = (rwq p, rwq q, true, 0) := by
  unfold qw at hp hq
  refine num_text (digT_r h1 h2) ⟨rdr_txt h1 (by omega) (by omega), rdr_txt h1 (by omega) (by omega)⟩ ⟨rdr_txt h1 (by omega) (by omega), rdr_txt h1 (by omega) (by omega)⟩ mkr_self rfl fun x hx => qt_zero.1 hx
theorem txt_one {r : Nat} (h1 : 2 ≤ r) : txt r 1 = [49] := by
  unfold txt
  rw [if_neg (by decide), rdg_pos h1 (by decide), Nat.mod_eq_of_lt (by omega), Nat.div_eq_of_lt (by omega), rdg_zero]
  rfl
/-- a fraction's text is 1 just for 1 -/
theorem frac_one {r : Nat} (h1 : 2 ≤ r) (h2 : r ≤ 36) {t d : Nat} : fracT (txt r) t d = [49] ↔ t = 1 ∧ d = 1 := by
  unfold fracT
  constructor
  · intro h
    by_cases hd : d = 1
    · rw [if_pos hd, List.append_nil] at h
      have := (rdv_txt h1 h2 t).1
      rw [h] at this
      refine ⟨?_, hd⟩
      rw [← this]
      simp [rdv]
      decide
    · rw [if_neg hd] at h
      have := congrArg List.length h
      have h3 := (rdv_txt h1 h2 t).2.2
      have h4 : 0 < (txt r t).length := List.length_pos_iff.2 h3
      simp at this
      omega
  · rintro ⟨rfl, rfl⟩
    rw [if_pos rfl, List.append_nil, txt_one h1]
end Go.Proofs.YtbgggepdlkbpoaaGreatDoor
namespace Go.Proofs.YtbgggepdlkbpoaaGreatDoor
open Go.RowKit

theorem below_dr {w w2 : World} {q : Nat} (h : w2 = w.drewN q) : Below w.heap.size w w2 := by rw [h]; exact bdN (Below.refl _ _) q
theorem equal_any (A D : Option Addr) (c d n m : Nat) (a b : List Nat) (w : World) (hn : n = a.length) (hm : m = b.length) (ha : RW w w.heap.size A c a) (hb : RW w w.heap.size D d b) :
    Calls Tryz.prog 39 #[.slice A n c, .slice D m d] w fun e w' => e = .returned (.bool (decide (a = b))) ∧ ∃ q, w' = w.drewN q := by
  subst hn hm
  have hba := ha.big
  have hbb := hb.big
  by_cases hlen : a.length = b.length
  · have hl1 : ((a.length : Int) != (b.length : Int)) = false := by simp; omega
    have HL := Lib.hid hlen
    have hlt : ¬ a.length < b.length := by omega
    have hgt : ¬ b.length < a.length := by omega
    clear hlen
    go_enter Tryz.func39, Tryz.ntmps39
    go_wp2
    go_loopw [13] (fun i wr => ∃ k : Nat, k ≤ a.length ∧ i = .int .i64 (k : Int) ∧ Hid (a.take k = b.take k) ∧ ∃ q, wr = w.drewN q) (fun i _ => (a.length - intOf i).toNat)
    case atStart => exact ⟨0, Nat.zero_le _, rfl, rfl, 0, rfl⟩
    case round =>
      obtain ⟨k, hk, rfl, hk2, q, rfl⟩ := hrel
      by_cases h0 : k < a.length
      · obtain ⟨b1, o1, rfl, _, hx⟩ := ha.at_ (by omega)
        obtain ⟨b2, o2, rfl, _, hy⟩ := hb.at_ (by omega)
        have hxk := hx k (by omega)
        have hyk := hy k (by omega)
        clear ha hb hx hy
        by_cases h1 : wd a k = wd b k
        · have t1 : ((wd a k : Int) != (wd b k : Int)) = false := by simp; omega
          have HR := Lib.hid (same_step h0 HL.out hk2.out h1)
          clear h1
          go_wp2
          go_quiet (fail)
          go_wp2
          go_roundw
          case rel => exact ⟨k + 1, by omega, by go_num, HR, _, rfl⟩
          case measure => simp [intOf]; omega
        · have t1 : ((wd a k : Int) != (wd b k : Int)) = true := by simp; omega
          go_wp2
          go_quiet (fail)
          go_wp2
          go_ret
          refine ⟨ret_bool ?_, drw _ _⟩
          rw [decide_eq_false (fun e => h1 (by rw [e]))]
      · obtain rfl : k = a.length := by omega
        go_wp2
        go_ret
        refine ⟨?_, q, rfl⟩
        have h2 := hk2.out
        rw [List.take_length, HL.out, List.take_length] at h2
        exact ret_bool (by rw [decide_eq_true h2])
  · have hl1 : ((a.length : Int) != (b.length : Int)) = true := by simp; omega
    go_enter Tryz.func39, Tryz.ntmps39
    go_wp2
    go_ret
    exact ⟨ret_bool (by rw [decide_eq_false (fun e => hlen (by rw [e]))]), 0, rfl⟩


def fsB (s : Bool) (a b : List Nat) (s' : Bool) (a' b' : List Nat) : Bool := (s == s') && (decide (a = a') && decide (b = b'))
theorem fsB_iff {s s' : Bool} {a b a' b' : List Nat} : fsB s a b s' a' b' = true ↔ s = s' ∧ a = a' ∧ b = b' := by
  unfold fsB; simp only [Bool.and_eq_true, beq_iff_eq, decide_eq_true_eq]
theorem fsB_q {p q : Rat} : fsB (qn p) (digs (qt p)) (digs (qd p)) (qn q) (digs (qt q)) (digs (qd q)) = decide (p = q) := by
  rw [Bool.eq_iff_iff, fsB_iff, decide_eq_true_eq]
  exact ⟨fun ⟨h1, h2, h3⟩ => q_ext h1 (digs_inj h2) (digs_inj h3), fun h => by rw [h]; exact ⟨rfl, rfl, rfl⟩⟩


set_option maxHeartbeats 2000000 in
theorem same1_any (v u : Value) (s : Bool) (a b : List Nat) (s' : Bool) (a' b' : List Nat) (w : World) (hv : VR w w.heap.size v s a b) (hu : VR w w.heap.size u s' a' b') :
    Calls Tryz.prog 38 #[v, u] w fun e w' => e = .returned (.bool (fsB s a b s' a' b')) ∧ Below w.heap.size w w' := by
  obtain ⟨A, c, D, d, rfl, ra, rb⟩ := hv
  obtain ⟨E, e0, H, h0, rfl, rc, rd⟩ := hu
  have B1 := bal w (.cells #[.bool s, .slice A a.length c, .slice D b.length d] 24)
  have B2 := bal (w.alloc (.cells #[.bool s, .slice A a.length c, .slice D b.length d] 24)) (.cells #[.bool s', .slice E a'.length e0, .slice H b'.length h0] 24)
  have C2 := bt B1 B2
  have z1 : (w.alloc (.cells #[.bool s, .slice A a.length c, .slice D b.length d] 24)).heap.size = w.heap.size + 1 := by simp
  have S1 := (SB.new w [.bool s, .slice A a.length c, .slice D b.length d] 24).nx B2
  have S2 := SB.new (w.alloc (.cells #[.bool s, .slice A a.length c, .slice D b.length d] 24)) [.bool s', .slice E a'.length e0, .slice H b'.length h0] 24
  rw [z1] at S2
  have m0 := S1.cell 0
  have m1 := S1.cell 1
  have m2 := S1.cell 2
  have n0 := S2.cell 0
  have n1 := S2.cell 1
  have n2 := S2.cell 2
  have h1 := equal_any A E c e0 _ _ a a' _ rfl rfl (st ra C2) (st rc C2)
  have h2 := fun w' B => equal_any D H d h0 _ _ b b' w' rfl rfl (st (st rb C2) B) (st (st rd C2) B)
  unfold fsB
  cases hs : s == s' with
  | false =>
    go_enter Tryz.func38, Tryz.ntmps38
    go_wp2_with fail
    go_ret
    exact ⟨rfl, C2⟩
  | true =>
    cases ht : decide (a = a') with
    | false =>
      rw [ht] at h1
      clear ht
      go_enter Tryz.func38, Tryz.ntmps38
      go_wp2_with fail
      refine h1.mono ?_; rintro e w3 ⟨rfl, q3, rfl⟩
      go_wp2_with fail
      go_ret
      exact ⟨rfl, bdN C2 q3⟩
    | true =>
      rw [ht] at h1
      clear ht
      go_enter Tryz.func38, Tryz.ntmps38
      go_wp2_with fail
      refine h1.mono ?_; rintro e w3 ⟨rfl, q3, h3⟩
      have B3 := below_dr h3
      clear h3
      have k2 := (S1.nx B3).cell 2
      have j2 := (S2.nx B3).cell 2
      go_wp2_with fail
      refine (h2 _ B3).mono ?_; rintro e w4 ⟨rfl, q4, rfl⟩
      go_wp2_with fail
      go_ret
      exact ⟨by simp only [Bool.true_and]; rfl, bdN (bt C2 B3) q4⟩


def sameB (r i r' i' : Rw) : Bool := nB r i && (nB r' i' && (fsB r.s r.a r.b r'.s r'.a r'.b && fsB i.s i.a i.b i'.s i'.a i'.b))
def alikeB (r i r' i' : Rw) : Bool := fsB r.s r.a r.b r'.s r'.a r'.b && fsB i.s i.a i.b i'.s i'.a i'.b
theorem vrs {w w' : World} {A : Option Addr} {c : Nat} {D : Option Addr} {d : Nat} {s : Bool} {a b : List Nat} (h1 : RW w w.heap.size A c a) (h2 : RW w w.heap.size D d b) (B : Below w.heap.size w w') :
    VR w' w'.heap.size (.agg #[.bool s, .slice A a.length c, .slice D b.length d]) s a b := ⟨A, c, D, d, rfl, st h1 B, st h2 B⟩
theorem vns {w w' : World} {A : Option Addr} {c : Nat} {D : Option Addr} {d : Nat} {s : Bool} {a b : List Nat} {A2 : Option Addr} {c2 : Nat} {D2 : Option Addr} {d2 : Nat} {s2 : Bool} {a2 b2 : List Nat}
    (h1 : RW w w.heap.size A c a) (h2 : RW w w.heap.size D d b) (h3 : RW w w.heap.size A2 c2 a2) (h4 : RW w w.heap.size D2 d2 b2) (B : Below w.heap.size w w') :
    VN w' w'.heap.size (.agg #[.bool s, .slice A a.length c, .slice D b.length d, .bool s2, .slice A2 a2.length c2, .slice D2 b2.length d2]) ⟨s, a, b⟩ ⟨s2, a2, b2⟩ :=
  ⟨A, c, D, d, A2, c2, D2, d2, rfl, st h1 B, st h2 B, st h3 B, st h4 B⟩


set_option maxHeartbeats 4000000 in
theorem esame_any (v u : Value) (r i r' i' : Rw) (w : World) (hv : VN w w.heap.size v r i) (hu : VN w w.heap.size u r' i') :
    Calls Tryz.prog 14 #[v, u] w fun e w' => e = .returned (.bool (sameB r i r' i')) ∧ Below w.heap.size w w' := by
  obtain ⟨s11, a11, b11⟩ := r
  obtain ⟨s12, a12, b12⟩ := i
  obtain ⟨A11, c11, D11, d11, A12, c12, D12, d12, rfl, r11, r12, r13, r14⟩ := hv
  dsimp only at r11 r12 r13 r14 ⊢
  obtain ⟨s21, a21, b21⟩ := r'
  obtain ⟨s22, a22, b22⟩ := i'
  obtain ⟨A21, c21, D21, d21, A22, c22, D22, d22, rfl, r21, r22, r23, r24⟩ := hu
  dsimp only at r21 r22 r23 r24 ⊢
  have B1 := bal w (.cells #[.bool s11, .slice A11 a11.length c11, .slice D11 b11.length d11, .bool s12, .slice A12 a12.length c12, .slice D12 b12.length d12] 26)
  have B2 := bal (w.alloc (.cells #[.bool s11, .slice A11 a11.length c11, .slice D11 b11.length d11, .bool s12, .slice A12 a12.length c12, .slice D12 b12.length d12] 26)) (.cells #[.bool s21, .slice A21 a21.length c21, .slice D21 b21.length d21, .bool s22, .slice A22 a22.length c22, .slice D22 b22.length d22] 26)
  have C2 := bt B1 B2
  have z1 : (w.alloc (.cells #[.bool s11, .slice A11 a11.length c11, .slice D11 b11.length d11, .bool s12, .slice A12 a12.length c12, .slice D12 b12.length d12] 26)).heap.size = w.heap.size + 1 := by simp
  have S1 := (SB.new w [.bool s11, .slice A11 a11.length c11, .slice D11 b11.length d11, .bool s12, .slice A12 a12.length c12, .slice D12 b12.length d12] 26).nx B2
  have S2 := SB.new (w.alloc (.cells #[.bool s11, .slice A11 a11.length c11, .slice D11 b11.length d11, .bool s12, .slice A12 a12.length c12, .slice D12 b12.length d12] 26)) [.bool s21, .slice A21 a21.length c21, .slice D21 b21.length d21, .bool s22, .slice A22 a22.length c22, .slice D22 b22.length d22] 26
  rw [z1] at S2
  have m0 := (S1).cell 0
  have m1 := (S1).cell 1
  have m2 := (S1).cell 2
  have m3 := (S1).cell 3
  have m4 := (S1).cell 4
  have m5 := (S1).cell 5
  have n0 := (S2).cell 0
  have n1 := (S2).cell 1
  have n2 := (S2).cell 2
  have n3 := (S2).cell 3
  have n4 := (S2).cell 4
  have n5 := (S2).cell 5
  show Calls _ _ _ _ fun e w' => e = .returned (.bool (nB ⟨s11, a11, b11⟩ ⟨s12, a12, b12⟩ && (nB ⟨s21, a21, b21⟩ ⟨s22, a22, b22⟩ && (fsB s11 a11 b11 s21 a21 b21 && fsB s12 a12 b12 s22 a22 b22)))) ∧ _
  have h0 := fun w' B => esound_any (.agg #[.bool s11, .slice A11 a11.length c11, .slice D11 b11.length d11, .bool s12, .slice A12 a12.length c12, .slice D12 b12.length d12]) ⟨s11, a11, b11⟩ ⟨s12, a12, b12⟩ w' (vns r11 r12 r13 r14 (bt C2 B))
  have h1 := fun w' B => esound_any (.agg #[.bool s21, .slice A21 a21.length c21, .slice D21 b21.length d21, .bool s22, .slice A22 a22.length c22, .slice D22 b22.length d22]) ⟨s21, a21, b21⟩ ⟨s22, a22, b22⟩ w' (vns r21 r22 r23 r24 (bt C2 B))
  have h2 := fun w' B => same1_any (.agg #[.bool s11, .slice A11 a11.length c11, .slice D11 b11.length d11]) (.agg #[.bool s21, .slice A21 a21.length c21, .slice D21 b21.length d21]) s11 a11 b11 s21 a21 b21 w' (vrs r11 r12 (bt C2 B)) (vrs r21 r22 (bt C2 B))
  have h3 := fun w' B => same1_any (.agg #[.bool s12, .slice A12 a12.length c12, .slice D12 b12.length d12]) (.agg #[.bool s22, .slice A22 a22.length c22, .slice D22 b22.length d22]) s12 a12 b12 s22 a22 b22 w' (vrs r13 r14 (bt C2 B)) (vrs r23 r24 (bt C2 B))
  cases t0 : nB ⟨s11, a11, b11⟩ ⟨s12, a12, b12⟩ with
  | false =>
    simp only [t0] at h0
    clear t0
    go_enter Tryz.func14, Tryz.ntmps14
    go_wp2_with fail
    refine (h0 _ (Below.refl _ _)).mono ?_; rintro e w0 ⟨rfl, F0⟩
    have E0 := F0
    go_wp2_with fail
    go_ret
    exact ⟨rfl, bt C2 E0⟩
  | true =>
    simp only [t0] at h0
    clear t0
    cases t1 : nB ⟨s21, a21, b21⟩ ⟨s22, a22, b22⟩ with
    | false =>
      simp only [t1] at h1
      clear t1
      go_enter Tryz.func14, Tryz.ntmps14
      go_wp2_with fail
      refine (h0 _ (Below.refl _ _)).mono ?_; rintro e w0 ⟨rfl, F0⟩
      have E0 := F0
      have m10 := (S1.nx E0).cell 0
      have m11 := (S1.nx E0).cell 1
      have m12 := (S1.nx E0).cell 2
      have m13 := (S1.nx E0).cell 3
      have m14 := (S1.nx E0).cell 4
      have m15 := (S1.nx E0).cell 5
      have n10 := (S2.nx E0).cell 0
      have n11 := (S2.nx E0).cell 1
      have n12 := (S2.nx E0).cell 2
      have n13 := (S2.nx E0).cell 3
      have n14 := (S2.nx E0).cell 4
      have n15 := (S2.nx E0).cell 5
      go_wp2_with fail
      refine (h1 _ E0).mono ?_; rintro e w1 ⟨rfl, F1⟩
      have E1 := bt E0 F1
      go_wp2_with fail
      go_ret
      exact ⟨rfl, bt C2 E1⟩
    | true =>
      simp only [t1] at h1
      clear t1
      cases t2 : fsB s11 a11 b11 s21 a21 b21 with
      | false =>
        simp only [t2] at h2
        clear t2
        go_enter Tryz.func14, Tryz.ntmps14
        go_wp2_with fail
        refine (h0 _ (Below.refl _ _)).mono ?_; rintro e w0 ⟨rfl, F0⟩
        have E0 := F0
        have m10 := (S1.nx E0).cell 0
        have m11 := (S1.nx E0).cell 1
        have m12 := (S1.nx E0).cell 2
        have m13 := (S1.nx E0).cell 3
        have m14 := (S1.nx E0).cell 4
        have m15 := (S1.nx E0).cell 5
        have n10 := (S2.nx E0).cell 0
        have n11 := (S2.nx E0).cell 1
        have n12 := (S2.nx E0).cell 2
        have n13 := (S2.nx E0).cell 3
        have n14 := (S2.nx E0).cell 4
        have n15 := (S2.nx E0).cell 5
        go_wp2_with fail
        refine (h1 _ E0).mono ?_; rintro e w1 ⟨rfl, F1⟩
        have E1 := bt E0 F1
        have m20 := (S1.nx E1).cell 0
        have m21 := (S1.nx E1).cell 1
        have m22 := (S1.nx E1).cell 2
        have m23 := (S1.nx E1).cell 3
        have m24 := (S1.nx E1).cell 4
        have m25 := (S1.nx E1).cell 5
        have n20 := (S2.nx E1).cell 0
        have n21 := (S2.nx E1).cell 1
        have n22 := (S2.nx E1).cell 2
        have n23 := (S2.nx E1).cell 3
        have n24 := (S2.nx E1).cell 4
        have n25 := (S2.nx E1).cell 5
        go_wp2_with fail
        refine (h2 _ E1).mono ?_; rintro e w2 ⟨rfl, F2⟩
        have E2 := bt E1 F2
        go_wp2_with fail
        go_ret
        exact ⟨rfl, bt C2 E2⟩
      | true =>
        simp only [t2] at h2
        clear t2
        go_enter Tryz.func14, Tryz.ntmps14
        go_wp2_with fail
        refine (h0 _ (Below.refl _ _)).mono ?_; rintro e w0 ⟨rfl, F0⟩
        have E0 := F0
        have m10 := (S1.nx E0).cell 0
        have m11 := (S1.nx E0).cell 1
        have m12 := (S1.nx E0).cell 2
        have m13 := (S1.nx E0).cell 3
        have m14 := (S1.nx E0).cell 4
        have m15 := (S1.nx E0).cell 5
        have n10 := (S2.nx E0).cell 0
        have n11 := (S2.nx E0).cell 1
        have n12 := (S2.nx E0).cell 2
        have n13 := (S2.nx E0).cell 3
        have n14 := (S2.nx E0).cell 4
        have n15 := (S2.nx E0).cell 5
        go_wp2_with fail
        refine (h1 _ E0).mono ?_; rintro e w1 ⟨rfl, F1⟩
        have E1 := bt E0 F1
        have m20 := (S1.nx E1).cell 0
        have m21 := (S1.nx E1).cell 1
        have m22 := (S1.nx E1).cell 2
        have m23 := (S1.nx E1).cell 3
        have m24 := (S1.nx E1).cell 4
        have m25 := (S1.nx E1).cell 5
        have n20 := (S2.nx E1).cell 0
        have n21 := (S2.nx E1).cell 1
        have n22 := (S2.nx E1).cell 2
        have n23 := (S2.nx E1).cell 3
        have n24 := (S2.nx E1).cell 4
        have n25 := (S2.nx E1).cell 5
        go_wp2_with fail
        refine (h2 _ E1).mono ?_; rintro e w2 ⟨rfl, F2⟩
        have E2 := bt E1 F2
        have m30 := (S1.nx E2).cell 0
        have m31 := (S1.nx E2).cell 1
        have m32 := (S1.nx E2).cell 2
        have m33 := (S1.nx E2).cell 3
        have m34 := (S1.nx E2).cell 4
        have m35 := (S1.nx E2).cell 5
        have n30 := (S2.nx E2).cell 0
        have n31 := (S2.nx E2).cell 1
        have n32 := (S2.nx E2).cell 2
        have n33 := (S2.nx E2).cell 3
        have n34 := (S2.nx E2).cell 4
        have n35 := (S2.nx E2).cell 5
        go_wp2_with fail
        refine (h3 _ E2).mono ?_; rintro e w3 ⟨rfl, F3⟩
        have E3 := bt E2 F3
        go_wp2_with fail
        go_ret
        exact ⟨by simp only [Bool.true_and]; rfl, bt C2 E3⟩


end Go.Proofs.YtbgggepdlkbpoaaGreatDoor
