/- Over of any two normal numbers, the second not 0. -/
import Derived.Test.YtabcnpcfknlmlaaNatX
import Derived.Test.YtabcnpcfknlmlaaNatM
namespace Go.Proofs.Ytabcnpcfknlmlaa
open Go.RowKit

theorem wd_of_one {b : List Nat} (h : b.length = 1) : b = [wd b 0] := by
  match b, h with
  | [x], _ => rfl

set_option maxRecDepth 100000 in
set_option maxHeartbeats 2000000 in
theorem over_any (A D : Option Addr) (c d n m : Nat) (a b : List Nat) (w : World) (hn : n = a.length) (hm : m = b.length) (ha : RW w w.heap.size A c a) (hb : RW w w.heap.size D d b) (na : Nrm a) (nb : Nrm b) (h0 : val b ≠ 0) (hla : a.length ≤ 8796093022208) :
    Calls Try.prog 84 #[.slice A n c, .slice D m d] w (RetQ w (val a / val b) (val a % val b)) := by
  subst hn; subst hm
  have ba := ha.b32
  have bb := hb.b32
  have hor := order_any A D c d _ _ a b w rfl rfl ha hb na nb
  by_cases hlt : val a < val b
  · have hcmp : cmpN (val a) (val b) = -1 := by unfold cmpN; rw [if_pos hlt]
    rw [hcmp] at hor
    have hcl := fun q0 => clone_any A c a.length a (w.drewN q0) rfl (ha.drewN q0)
    have hq : val a / val b = 0 := Nat.div_eq_of_lt hlt
    have hr : digs (val a % val b) = a := by rw [Nat.mod_eq_of_lt hlt, digs_val ba na]
    have HQ := Lib.hid hq
    have HR := Lib.hid hr
    clear hq hr hlt hcmp ha hb
    go_enter Try.func84, Try.ntmps84
    go_wp2_with fail
    refine hor.mono ?_; rintro e w1 ⟨rfl, q0, rfl⟩
    go_wp2_with fail
    refine (hcl q0).mono ?_; rintro e w2 ⟨A2, c2, rfl, O2, B2⟩
    go_wp2_with fail
    go_ret2
    rw [HQ.out]
    refine ⟨none, 0, A2, c2, by rw [digs_zero, HR.out]; rfl, by rw [digs_zero]; exact OW.nil _ _, by rw [HR.out]; exact O2, (bdN (Below.refl _ _) q0).trans B2⟩
  · have hll := len_of_le ba nb (by omega)
    have hb0 : 0 < b.length := by
      rcases Nat.eq_zero_or_pos b.length with h | h
      · rw [List.length_eq_zero_iff] at h; subst h; exact absurd rfl h0
      · exact h
    by_cases h1 : b.length = 1
    · have hcmp : ¬ cmpN (val a) (val b) < 0 := by unfold cmpN; split <;> (try split) <;> omega
      obtain ⟨b1, o1, rfl, hlt1, hx⟩ := hb.at_ hb0
      have hx0 := hx 0 hb0
      rw [Nat.add_zero] at hx0
      have e1 := wd_of_one h1
      have hv : val b = wd b 0 := by rw [e1]; simp [val, wd]
      have hwl := wd_lt bb 0
      have hxl := Nat.mod_lt (val a) (show 0 < wd b 0 by omega)
      have hsh := fun q0 => short_any A c a.length a (wd b 0) (w.drewN q0) (by omega) hwl rfl (ha.drewN q0)
      have hle : a.length ≤ 35184372088832 := ha.big
      have hlen1 : ((b.length : Int) == 1) = true := by rw [h1]; rfl
      have hi0 : (0 : Int) < (b.length : Int) := by omega
      generalize hr : val a % wd b 0 = r at *
      have hnm := fun (w1 : World) => norm_any (some ⟨w1.heap.size, 0, none⟩) 1 1 [r] (w1.alloc (.cells #[.int .u32 (r : Int)] 53)) rfl ((RW.one w1 53 (show r < 4294967296 by omega)).more (by simp))
      have hol := fun (w1 : World) => (OW.lit w1 [r] (by simp) (B32_cons (show r < 4294967296 by omega) B32_nil)).norm
      rw [val_one] at hnm
      simp only [val_one] at hol
      rw [hv]
      rw [hr]
      generalize cmpN (val a) (val b) = cmp at *
      have HR := Lib.hid hr
      clear hr hv hx e1 hb ha h0 hxl h1 hll
      go_enter Try.func84, Try.ntmps84
      go_wp2_with fail
      refine hor.mono ?_; rintro e w1 ⟨rfl, q0, rfl⟩
      go_wp2_with fail
      go_at_call 88
      refine (hsh q0).mono ?_; rintro e w2 ⟨A2, c2, rfl, O2, B2⟩
      go_wp2_with fail
      refine (hnm _).mono ?_; rintro e w3 ⟨rfl, rfl⟩
      go_wp2_with fail
      go_ret2
      have B0 := (bdN (Below.refl w.heap.size w) q0).trans B2
      exact ⟨A2, c2, _, 1, rfl, O2.alloc _, (hol _).base_le B0.size, B0.alloc B0.size _⟩
    · exact over_main A D c d b.length a b w ha hb na nb rfl (by omega) (by omega) hla
end Go.Proofs.Ytabcnpcfknlmlaa
