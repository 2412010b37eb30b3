/- Walks: the values of digits. -/
import Derived.Test.YtpknbgfekmdlfaaNatS
namespace Go.Proofs.Ytpknbgfekmdlfaa
open Go.RowKit

def digL : List UInt8 := [48, 49, 50, 51, 52, 53, 54, 55, 56, 57, 97, 98, 99, 100, 101, 102, 103, 104, 105, 106, 107, 108, 109, 110, 111, 112, 113, 114, 115, 116, 117, 118, 119, 120, 121, 122]
def vk (b : Nat) : Int := Lib.indexByte digL (b ||| 32).toUInt8
/-- what the three tests of nat.Value come to -/
def vtest (b : Nat) : Bool := decide (10 ≤ vk b) && ((b ||| 32) != b || decide (97 ≤ b))
theorem value_facts : ∀ b : Fin 256, (vtest b.val = true → vk b.val = (dval b.val : Int)) ∧ (vtest b.val = false → dval b.val = if 48 ≤ b.val ∧ b.val ≤ 57 then b.val - 48 else 99) ∧ -1 ≤ vk b.val ∧ vk b.val ≤ 35 := by decide +kernel

theorem value_any (b : Nat) (w : World) (h : b < 256) : Calls Try.prog 60 #[.int .u8 (b : Int)] w fun e w' => e = .returned (.int .i64 (dval b)) ∧ w = w' := by
  obtain ⟨f1, f2, f3, f4⟩ := value_facts ⟨b, h⟩
  simp only at f1 f2 f3 f4
  have e1 : bits .or .u8 (b : Int) 32 = ((b ||| 32 : Nat) : Int) := u8_or_nat b 32 h (by omega)
  have hlt : b ||| 32 < 256 := Nat.or_lt_two_pow (n := 8) h (by omega)
  have hI := fun w => (Try.strings_IndexByte ⟨#[48, 49, 50, 51, 52, 53, 54, 55, 56, 57, 97, 98, 99, 100, 101, 102, 103, 104, 105, 106, 107, 108, 109, 110, 111, 112, 113, 114, 115, 116, 117, 118, 119, 120, 121, 122]⟩ ((b ||| 32 : Nat) : Int) w)
  have hv : Lib.indexByte (⟨#[48, 49, 50, 51, 52, 53, 54, 55, 56, 57, 97, 98, 99, 100, 101, 102, 103, 104, 105, 106, 107, 108, 109, 110, 111, 112, 113, 114, 115, 116, 117, 118, 119, 120, 121, 122]⟩ : ByteArray).data.toList ((b ||| 32 : Nat) : Int).toNat.toUInt8 = vk b := rfl
  rw [hv] at hI
  unfold vtest at f1 f2
  have F1 := Lib.hid f1
  have F2 := Lib.hid f2
  clear hv f1 f2
  generalize vk b = k at *
  generalize hob : b ||| 32 = o at *
  have HO := Lib.hid hob
  clear hob
  by_cases c1 : 10 ≤ k
  · have t1 : decide ((10 : Int) ≤ k) = true := by simpa using c1
    by_cases c2 : o = b
    · have t2 : ((o : Int) != (b : Int)) = false := by simp [c2]
      by_cases c3 : 97 ≤ b
      · have t3 : decide ((97 : Int) ≤ (b : Int)) = true := by simp; omega
        have HV : Hid (k = (dval b : Int)) := F1.out (by simp [c1, c3])
        clear c2
        go_enter Try.func60, Try.ntmps60
        go_wp2_with (go_at_call 74; refine (hI _).mono ?_; rintro e w' ⟨rfl, rfl⟩)
        go_ret
        exact ⟨ret_int HV.out, rfl⟩
      · have t3 : decide ((97 : Int) ≤ (b : Int)) = false := by simp; omega
        have HV : Hid (dval b = if 48 ≤ b ∧ b ≤ 57 then b - 48 else 99) := F2.out (by simp [c2, c3])
        clear c2
        by_cases c4 : 48 ≤ b
        · have t4 : decide ((48 : Int) ≤ (b : Int)) = true := by simp; omega
          by_cases c5 : b ≤ 57
          · have t5 : decide ((b : Int) ≤ 57) = true := by simp; omega
            go_enter Try.func60, Try.ntmps60
            go_wp2_with (go_at_call 74; refine (hI _).mono ?_; rintro e w' ⟨rfl, rfl⟩)
            go_ret
            exact ⟨ret_int (by rw [HV.out, if_pos ⟨c4, c5⟩]; omega), rfl⟩
          · have t5 : decide ((b : Int) ≤ 57) = false := by simp; omega
            go_enter Try.func60, Try.ntmps60
            go_wp2_with (go_at_call 74; refine (hI _).mono ?_; rintro e w' ⟨rfl, rfl⟩)
            go_ret
            exact ⟨ret_int (by rw [HV.out, if_neg (by omega)]; rfl), rfl⟩
        · have t4 : decide ((48 : Int) ≤ (b : Int)) = false := by simp; omega
          go_enter Try.func60, Try.ntmps60
          go_wp2_with (go_at_call 74; refine (hI _).mono ?_; rintro e w' ⟨rfl, rfl⟩)
          go_ret
          exact ⟨ret_int (by rw [HV.out, if_neg (by omega)]; rfl), rfl⟩
    · have t2 : ((o : Int) != (b : Int)) = true := by simp; omega
      have HV : Hid (k = (dval b : Int)) := F1.out (by simp [c1, c2])
      go_enter Try.func60, Try.ntmps60
      go_wp2_with (go_at_call 74; refine (hI _).mono ?_; rintro e w' ⟨rfl, rfl⟩)
      go_ret
      exact ⟨ret_int HV.out, rfl⟩
  · have t1 : decide ((10 : Int) ≤ k) = false := by simp; omega
    have HV : Hid (dval b = if 48 ≤ b ∧ b ≤ 57 then b - 48 else 99) := F2.out (by simp [c1])
    by_cases c4 : 48 ≤ b
    · have t4 : decide ((48 : Int) ≤ (b : Int)) = true := by simp; omega
      by_cases c5 : b ≤ 57
      · have t5 : decide ((b : Int) ≤ 57) = true := by simp; omega
        go_enter Try.func60, Try.ntmps60
        go_wp2_with (go_at_call 74; refine (hI _).mono ?_; rintro e w' ⟨rfl, rfl⟩)
        go_ret
        exact ⟨ret_int (by rw [HV.out, if_pos ⟨c4, c5⟩]; omega), rfl⟩
      · have t5 : decide ((b : Int) ≤ 57) = false := by simp; omega
        go_enter Try.func60, Try.ntmps60
        go_wp2_with (go_at_call 74; refine (hI _).mono ?_; rintro e w' ⟨rfl, rfl⟩)
        go_ret
        exact ⟨ret_int (by rw [HV.out, if_neg (by omega)]; rfl), rfl⟩
    · have t4 : decide ((48 : Int) ≤ (b : Int)) = false := by simp; omega
      go_enter Try.func60, Try.ntmps60
      go_wp2_with (go_at_call 74; refine (hI _).mono ?_; rintro e w' ⟨rfl, rfl⟩)
      go_ret
      exact ⟨ret_int (by rw [HV.out, if_neg (by omega)]; rfl), rfl⟩

theorem match_facts : ∀ b : Fin 256, ∀ n : Fin 36, (((b.val == (dch n.val).toNat) || (decide (10 ≤ n.val) && (b.val == (dch n.val).toNat - 32))) = true ↔ dval b.val = n.val) := by decide +kernel
theorem dch_ge {n : Nat} (h : n < 36) : 48 ≤ (dch n).toNat ∧ (dch n).toNat < 256 := by rw [dch_nat h]; split <;> omega

set_option maxHeartbeats 1000000 in
theorem rvalue_any (b : Nat) (w : World) (h : b < 256) : Calls Try.prog 61 #[.int .u8 (b : Int)] w fun e w' => e = .returned (.int .u32 (dval b)) ∧ w = w' := by
  have h99 := dval_36 b
  go_enter Try.func61, Try.ntmps61
  go_wp2
  go_loop [3] (fun n => ∃ k : Nat, k ≤ 36 ∧ n = .int .u32 k ∧ k ≤ dval b) (fun i => (36 - intOf i).toNat)
  case atStart => exact ⟨0, by omega, rfl, by omega⟩
  case round =>
    obtain ⟨k, hk, rfl, hle⟩ := hrel
    by_cases h0 : k < 36
    · have hf := match_facts ⟨b, h⟩ ⟨k, h0⟩
      simp only at hf
      have hd := dch_ge h0
      have hdg := digit_any k
      by_cases c1 : b = (dch k).toNat
      · have t1 : ((b : Int) == ((dch k).toNat : Int)) = true := by simp [c1]
        have HV : Hid (dval b = k) := hf.1 (by simp [c1])
        clear c1 hf
        go_wp2_with (go_at_call 59; refine (hdg _ h0).mono ?_; rintro e w' ⟨rfl, rfl⟩)
        go_ret
        exact ⟨ret_int (by rw [HV.out]), rfl⟩
      · have t1 : ((b : Int) == ((dch k).toNat : Int)) = false := beq_eq_false_iff_ne.2 (by omega)
        by_cases c2 : 10 ≤ k
        · have t2 : decide ((10 : Int) ≤ (k : Int)) = true := by simp; omega
          by_cases c3 : b = (dch k).toNat - 32
          · have t3 : ((b : Int) == ((dch k).toNat : Int) - 32) = true := by simp; omega
            have HV : Hid (dval b = k) := hf.1 (by simp [c2, c3])
            clear c3 hf
            go_wp2_with (go_at_call 59; refine (hdg _ h0).mono ?_; rintro e w' ⟨rfl, rfl⟩)
            go_ret
            exact ⟨ret_int (by rw [HV.out]), rfl⟩
          · have t3 : ((b : Int) == ((dch k).toNat : Int) - 32) = false := beq_eq_false_iff_ne.2 (by omega)
            have hne : dval b ≠ k := fun he => by have := hf.2 he; simp [c1, c3] at this
            clear hf
            go_wp2_with (go_at_call 59; refine (hdg _ h0).mono ?_; rintro e w' ⟨rfl, rfl⟩)
            go_round
            case rel => exact ⟨k + 1, by omega, by go_num, by omega⟩
            case measure => simp [intOf]; omega
        · have t2 : decide ((10 : Int) ≤ (k : Int)) = false := by simp; omega
          have hne : dval b ≠ k := fun he => by have := hf.2 he; simp [c1, c2] at this
          clear hf
          go_wp2_with (go_at_call 59; refine (hdg _ h0).mono ?_; rintro e w' ⟨rfl, rfl⟩)
          go_round
          case rel => exact ⟨k + 1, by omega, by go_num, by omega⟩
          case measure => simp [intOf]; omega
    · obtain rfl : k = 36 := by omega
      have HV : Hid (dval b = 99) := by show _ = _; omega
      go_wp2
      go_ret
      exact ⟨ret_int (by rw [HV.out]; rfl), rfl⟩
end Go.Proofs.Ytpknbgfekmdlfaa
