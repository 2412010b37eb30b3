/- The plain law of powers, and the walk of ExactPowerLaws joined. -/
import Derived.Test.YtdkejndagicgjaaEyK
namespace Go.Proofs.Ytdkejndagicgjaa
open Go.RowKit

theorem qw1 : qw (1 : Rat) ≤ 512 := by decide_cbv
theorem expt_pos_ok {x y : Rat} {n : Int} {k : Nat} {xr xi : Rw} (hn : n = (k : Int)) (h : exptQ x y n = (xr, xi, 0)) :
    xr = rwq (cpow x y k).1 ∧ xi = rwq (cpow x y k).2 ∧ qw (cpow x y k).1 ≤ 512 ∧ qw (cpow x y k).2 ≤ 512 := by
  subst hn
  unfold exptQ at h
  split at h
  · simp at h
  · split at h
    · next h0 =>
      obtain rfl : k = 0 := by omega
      simp only [Prod.mk.injEq] at h
      exact ⟨h.1.symm, h.2.1.symm, qw1, qw0⟩
    · split at h
      · simp at h
      · split at h
        · simp at h
        · rw [if_neg (by omega), Int.natAbs_natCast] at h
          exact fitQ_inv h
theorem expt_neg_ok {x y : Rat} {k : Nat} {wr wi : Rw} {e : Int} (hk : k ≤ 12) (hx : ¬ (x = 0 ∧ y = 0)) (h : exptQ x y (-(k : Int)) = (wr, wi, e)) :
    e = 4 ∨ e = 0 ∧ ∃ p : Rat × Rat, wr = rwq p.1 ∧ wi = rwq p.2 ∧ qw p.1 ≤ 512 ∧ qw p.2 ≤ 512 ∧ cmul (cpow x y k) p = (1, 0) := by
  unfold exptQ at h
  rw [if_neg (by omega)] at h
  split at h
  · next h0 =>
    obtain rfl : k = 0 := by omega
    simp only [Prod.mk.injEq] at h
    exact .inr ⟨h.2.2.symm, (1, 0), h.1.symm, h.2.1.symm, qw1, qw0, by show cmul (1, 0) (1, 0) = _; unfold cmul; refine Prod.ext ?_ ?_ <;> grind⟩
  · rw [if_neg (fun hh => hx hh.1), Int.natAbs_neg, Int.natAbs_natCast] at h
    split at h
    · simp only [Prod.mk.injEq] at h
      exact .inl h.2.2.symm
    · rw [if_pos (by omega)] at h
      by_cases hq : qw (invQ (cpow x y k)).1 ≤ 512 ∧ qw (invQ (cpow x y k)).2 ≤ 512
      · have h2 := h
        unfold fitQ at h2
        rw [if_pos hq] at h2
        simp only [Prod.mk.injEq] at h2
        exact .inr ⟨h2.2.2.symm, invQ (cpow x y k), h2.1.symm, h2.2.1.symm, hq.1, hq.2, mul_inv (cpow_ne hx k)⟩
      · unfold fitQ at h
        rw [if_neg hq] at h
        simp only [Prod.mk.injEq] at h
        exact .inl h.2.2.symm
theorem expt_zero_code {k : Nat} {wr wi : Rw} {e : Int} (hk : k ≤ 12) (h : exptQ 0 0 (-(k : Int)) = (wr, wi, e)) : (k : Int) = 0 ∧ e = 0 ∨ 0 < (k : Int) ∧ e = 3 := by
  unfold exptQ at h
  rw [if_neg (by omega)] at h
  split at h
  · simp only [Prod.mk.injEq] at h
    exact .inl ⟨by omega, h.2.2.symm⟩
  · rw [if_pos ⟨⟨rfl, rfl⟩, by omega⟩] at h
    simp only [Prod.mk.injEq] at h
    exact .inr ⟨by omega, h.2.2.symm⟩
theorem same_refl {x y : Rat} (hx : qw x ≤ 512) (hy : qw y ≤ 512) : sameB (rwq x) (rwq y) (rwq x) (rwq y) = true := by
  rw [sameB_q hx hy hx hy, decide_eq_true_eq]
  exact ⟨rfl, rfl⟩
theorem powers_plain {ra ia : Rw} {i j : Nat} (hi : i ≤ 12) {xr xi yr yi zr zi wr wi : Rw} {h : Int} (e1 : qexptA ra ia (i : Int) = (xr, xi, 0)) (e2 : qexptA ra ia (j : Int) = (yr, yi, 0)) (e3 : qexptA ra ia ((i : Int) + (j : Int)) = (zr, zi, 0)) (e4 : qexptA ra ia (-(i : Int)) = (wr, wi, h)) :
    (∃ pr pi, qmulA xr xi yr yi = (pr, pi, 0) ∧ sameB pr pi zr zi = true) ∧ ((sameB ra ia (rwq 0) (rwq 0) = true ∧ ((i : Int) = 0 ∧ h = 0 ∨ 0 < (i : Int) ∧ h = 3)) ∨
      (sameB ra ia (rwq 0) (rwq 0) = false ∧ (h = 4 ∨ h = 0 ∧ ∀ qr qi, qmulA xr xi wr wi = (qr, qi, 0) → sameB qr qi (rwq 1) (rwq 0) = true))) := by
  unfold qexptA at e1 e2 e3 e4
  by_cases hn : nB ra ia = true
  · rw [if_pos hn] at e1 e2 e3 e4
    obtain ⟨x, y, rfl, rfl, bx, by_⟩ := nB_rat hn
    rw [qv_rwq, qv_rwq] at e1 e2 e3 e4
    obtain ⟨rfl, rfl, a1, a2⟩ := expt_pos_ok rfl e1
    obtain ⟨rfl, rfl, b1, b2⟩ := expt_pos_ok rfl e2
    obtain ⟨rfl, rfl, c1, c2⟩ := expt_pos_ok (k := i + j) (by omega) e3
    refine ⟨⟨rwq (cpow x y (i + j)).1, rwq (cpow x y (i + j)).2, ?_, same_refl c1 c2⟩, ?_⟩
    · rw [qmulA_q a1 a2 b1 b2]
      have h1 := cpow_add x y i j
      rw [show (cpow x y i).1 * (cpow x y j).1 + -((cpow x y i).2 * (cpow x y j).2) = (cpow x y (i + j)).1 from congrArg Prod.fst h1, show (cpow x y i).1 * (cpow x y j).2 + (cpow x y i).2 * (cpow x y j).1 = (cpow x y (i + j)).2 from congrArg Prod.snd h1]
      exact fitQ_ok c1 c2
    · rw [sameB_q bx by_ qw0 qw0]
      by_cases hx : x = 0 ∧ y = 0
      · obtain ⟨rfl, rfl⟩ := hx
        exact .inl ⟨by simp, expt_zero_code hi e4⟩
      · refine .inr ⟨decide_eq_false hx, ?_⟩
        rcases expt_neg_ok hi hx e4 with h4 | ⟨h0, p, rfl, rfl, p1, p2, hp⟩
        · exact .inl h4
        · refine .inr ⟨h0, fun qr qi hq => ?_⟩
          rw [qmulA_q a1 a2 p1 p2, show (cpow x y i).1 * p.1 + -((cpow x y i).2 * p.2) = 1 from congrArg Prod.fst hp, show (cpow x y i).1 * p.2 + (cpow x y i).2 * p.1 = 0 from congrArg Prod.snd hp] at hq
          obtain ⟨rfl, rfl, _, _⟩ := fitQ_inv hq
          exact same_refl qw1 qw0
  · rw [if_neg hn] at e1
    simp at e1
theorem exactPowerLaws_walk (V : Value) (ra ia : Rw) (m n : Int) (w : World) (hV : VN w w.heap.size V ra ia) (hm : 0 ≤ m ∧ m ≤ 255) (hn : 0 ≤ n ∧ n ≤ 255) :
    Calls Try.prog 7 #[V, .int .u8 m, .int .u8 n] w fun e w' => e = .returned (.bool true) ∧ Below w.heap.size w w' := by
  obtain ⟨i, hi⟩ : ∃ i : Nat, m % 12 = (i : Int) := ⟨(m % 12).toNat, by omega⟩
  obtain ⟨j, hj⟩ : ∃ j : Nat, n % 12 = (j : Int) := ⟨(n % 12).toNat, by omega⟩
  rcases e1 : qexptA ra ia (i : Int) with ⟨xr, xi, e⟩
  rcases e2 : qexptA ra ia (j : Int) with ⟨yr, yi, f⟩
  rcases e3 : qexptA ra ia ((i : Int) + (j : Int)) with ⟨zr, zi, g⟩
  rcases e4 : qexptA ra ia (-(i : Int)) with ⟨wr, wi, h⟩
  exact powers_ok V ra ia m n w hV hm hn (i : Int) (j : Int) hi hj xr xi yr yi zr zi wr wi e f g h e1 e2 e3 e4 (rwq 0) (rwq 1) (fun w => int_any 0 w (by omega) (by omega)) (fun w => int_any 1 w (by omega) (by omega))
    (fun he hf hg => by subst he hf hg; exact powers_plain (by omega) e1 e2 e3 e4)
end Go.Proofs.Ytdkejndagicgjaa
