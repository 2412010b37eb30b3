/- Walks: strings.HasPrefix with a prefix of one byte. -/
import Derived.Test.YtkjfpaommbjgbaaGB
import Derived.Lib.Strings
namespace Go.Proofs.Ytkjfpaommbjgbaa
open Go.RowKit

theorem head_data {s : ByteArray} {c : UInt8} (h : 1 ≤ s.size) : ((s.extract 0 1).toList == [c]) = decide (s.data.toList.head? = some c) := by
  rw [Lib.toList_data, Lib.extract_data, List.drop_zero, Nat.sub_zero]
  have hl : s.data.toList.length = s.size := by rw [Array.length_toList]; rfl
  cases hs : s.data.toList with
  | nil => rw [hs] at hl; simp at hl; omega
  | cons a t => simp [Bool.beq_eq_decide_eq]
theorem head_nil {s : ByteArray} (h : s.size = 0) : s.data.toList.head? = none := by
  have hl : s.data.toList.length = s.size := by rw [Array.length_toList]; rfl
  rw [h] at hl
  rw [List.eq_nil_of_length_eq_zero hl]
  rfl
theorem lhasp_any (s : ByteArray) (c : UInt8) (w : World) :
    Calls Try.prog 51 #[.string s, .string ⟨#[c]⟩] w fun e w' => e = .returned (.bool (decide (s.data.toList.head? = some c))) ∧ w = w' := by
  by_cases h : 1 ≤ s.size
  · have hd := head_data (c := c) h
    have h1 : (1 : Int) ≤ (s.size : Int) := by omega
    go_enter Try.func51, Try.ntmps51
    go_wp2_with fail
    go_ret
    exact ⟨rfl, rfl⟩
  · have hd := head_nil (show s.size = 0 by omega)
    have h1 : decide ((1 : Int) ≤ (s.size : Int)) = false := decide_eq_false (by omega)
    rw [hd]
    go_enter Try.func51, Try.ntmps51
    go_wp2_with fail
    go_ret
    exact ⟨rfl, rfl⟩
theorem hasp_any (s : ByteArray) (c : UInt8) (w : World) :
    Calls Try.prog 30 #[.string s, .string ⟨#[c]⟩] w fun e w' => e = .returned (.bool (decide (s.data.toList.head? = some c))) ∧ w = w' := by
  have h := lhasp_any s c w
  go_enter Try.func30, Try.ntmps30
  go_wp2_with fail
  refine h.mono ?_; rintro e w' ⟨rfl, rfl⟩
  go_wp2_with fail
  go_ret
  exact ⟨rfl, rfl⟩
end Go.Proofs.Ytkjfpaommbjgbaa
