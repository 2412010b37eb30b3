/- Walks: unit and sign of exact's reader. -/
import Derived.Test.YtkjfpaommbjgbaaRdA
import Derived.Test.YtkjfpaommbjgbaaStrA
namespace Go.Proofs.Ytkjfpaommbjgbaa
open Go.RowKit

theorem str_eq (s : ByteArray) (l : List UInt8) : (s.toList == l) = decide (s.data.toList = l) := by
  rw [Lib.toList_data]
  exact Bool.beq_eq_decide_eq ..
set_option maxRecDepth 100000 in
theorem unit_any (g : Nat) (s : ByteArray) (a b : Value) (w : World) (S : SB w g [.string s, a, b]) :
    Calls Try.prog 33 #[.pointer (some ⟨g, 0, none⟩)] w fun e w' => e = .returned (.bool (unitB s.data.toList)) ∧ w = w' := by
  have m0 := S.cell 0
  have e1 := str_eq s [105]
  have e2 := str_eq s [73]
  unfold unitB
  generalize decide (s.data.toList = [105]) = b1 at *
  generalize decide (s.data.toList = [73]) = b2 at *
  clear S
  cases b1
  · go_enter Try.func33, Try.ntmps33
    go_wp2_with fail
    go_ret
    exact ⟨rfl, rfl⟩
  · go_enter Try.func33, Try.ntmps33
    go_wp2_with fail
    go_ret
    exact ⟨rfl, rfl⟩
/-- what sign gives, and leaves in the reader -/
def RetSg (w : World) (g : Nat) (a b : Value) (x : Bool × Bool × List UInt8) (e : Ending) (w' : World) : Prop :=
  e = .returned (.tuple #[.bool x.1, .bool x.2.1]) ∧ ∃ s' : ByteArray, s'.data.toList = x.2.2 ∧ SB w' g [.string s', a, b] ∧ FarW g w w'
set_option maxRecDepth 100000 in
set_option maxHeartbeats 2000000 in
theorem sign_any (g : Nat) (s : ByteArray) (a b : Value) (w : World) (S : SB w g [.string s, a, b]) :
    Calls Try.prog 32 #[.pointer (some ⟨g, 0, none⟩)] w (RetSg w g a b (sgnP s.data.toList)) := by
  have m0 := S.cell 0
  have f0 := S.frozen 0
  by_cases h0 : s.size = 0
  · have hse : s = ⟨#[]⟩ := by
      cases s with
      | mk d => congr 1; exact Array.eq_empty_of_size_eq_zero h0
    subst hse
    clear h0
    go_enter Try.func32, Try.ntmps32
    go_wp2_with fail
    go_ret2
    exact ⟨rfl, _, rfl, S, FarW.refl _ _⟩
  · have t1 := ne_empty h0
    have hp : 0 < s.size := by omega
    have e1 := s_at hp
    have hl := s_len s
    obtain ⟨c, t, hct⟩ : ∃ c t, s.data.toList = c :: t := by
      cases hd : s.data.toList with
      | nil => rw [hd] at hl; simp at hl; omega
      | cons c t => exact ⟨c, t, rfl⟩
    have hb : byt s.data.toList 0 = c.toNat := by rw [hct]; rfl
    rw [hb] at e1
    have hdr : (s.extract 1 s.size).data.toList = t := by rw [ext_drop, hct]; rfl
    have S2 := S.set 0 (.string (s.extract 1 s.size))
    have hF := (FarW.refl g w).set 0 (.string (s.extract 1 s.size))
    have h1 : (1 : Int) ≤ (s.size : Int) := by omega
    by_cases c1 : c = 43
    · subst c1
      have e2 : ((s[0]'hp).toNat : Int) = 43 := by rw [e1]; rfl
      have hG : sgnP s.data.toList = (false, true, t) := by rw [hct]; rfl
      rw [hG]
      clear hct hb hl h0 hG
      go_enter Try.func32, Try.ntmps32
      go_wp2_with fail
      go_ret2
      exact ⟨rfl, _, hdr, S2, hF⟩
    · by_cases c2 : c = 45
      · subst c2
        have e2 : ((s[0]'hp).toNat : Int) = 45 := by rw [e1]; rfl
        have hG : sgnP s.data.toList = (true, true, t) := by rw [hct]; rfl
        rw [hG]
        clear hct hb hl h0 hG c1
        go_enter Try.func32, Try.ntmps32
        go_wp2_with fail
        go_ret2
        exact ⟨rfl, _, hdr, S2, hF⟩
      · have hG : sgnP s.data.toList = (false, false, s.data.toList) := by rw [hct]; exact if_neg (show ¬ (c = 43 ∨ c = 45) by simp [c1, c2])
        have e3 : ¬ c.toNat = 43 := fun h => c1 (UInt8.toNat.inj h)
        have e4 : ¬ c.toNat = 45 := fun h => c2 (UInt8.toNat.inj h)
        have d3 : (((s[0]'hp).toNat : Int) == 43) = false := beq_eq_false_iff_ne.2 (by rw [e1]; omega)
        have d4 : (((s[0]'hp).toNat : Int) == 45) = false := beq_eq_false_iff_ne.2 (by rw [e1]; omega)
        rw [hG]
        clear hct hb hl h0 hG c1 c2 e1 e3 e4 hdr
        go_enter Try.func32, Try.ntmps32
        go_wp2_with fail
        go_ret2
        exact ⟨rfl, _, rfl, S, FarW.refl _ _⟩
end Go.Proofs.Ytkjfpaommbjgbaa
