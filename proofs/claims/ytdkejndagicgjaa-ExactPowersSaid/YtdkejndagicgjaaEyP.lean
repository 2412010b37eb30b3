/- Walks: the reference's Expt, joined. -/
import Derived.Test.YtdkejndagicgjaaEyO
import Derived.Test.YtdkejndagicgjaaEyR
import Derived.Test.YtdkejndagicgjaaEyS
namespace Go.Proofs.Ytdkejndagicgjaa
open Go.RowKit

theorem rx_step (x : Rat) (k : Nat) : qt (rp x (k + 1)) = qt (rp x k) * qt x ∧ qd (rp x (k + 1)) = qd (rp x k) * qd x ∧
    (qn (rp x (k + 1)) = (qn (rp x k) != qn x) ∧ (qn (rp x k) ≠ qn x → 0 < (digs (qt x)).length) ∧ (qn (rp x k) = true → qn x = true)) := by
  obtain ⟨a1, a2, a3⟩ := rp_facts x k
  obtain ⟨b1, b2, b3⟩ := rp_facts x (k + 1)
  refine ⟨by rw [a1, b1, Nat.pow_succ], by rw [a2, b2, Nat.pow_succ], ?_, ?_, ?_⟩
  · rw [a3, b3]
    cases qn x
    · simp
    · rcases Nat.mod_two_eq_zero_or_one k with h | h
      · have e : (k + 1) % 2 = 1 := by omega
        simp [h, e]
      · have e : (k + 1) % 2 = 0 := by omega
        simp [h, e]
  · intro h
    have hx : qn x = true := by
      cases hq : qn x with
      | true => rfl
      | false => rw [a3, hq] at h; simp at h
    have h0 : qt x ≠ 0 := fun e => by rw [qn_zero e] at hx; cases hx
    have h1 : (digs (qt x)).length ≠ 0 := fun e => h0 (digs_len0.1 e)
    omega
  · intro h
    rw [a3] at h
    simp only [Bool.and_eq_true] at h
    exact h.1
theorem qw_real (p : Rat) : (qw p ≤ 512 ∧ qw (0 : Rat) ≤ 512) ↔ ((digs (qt p)).length ≤ 512 ∧ (digs (qd p)).length ≤ 512) := by
  unfold qw
  rw [show digs (qt (0 : Rat)) = [] from digs_zero, show digs (qd (0 : Rat)) = [1] from digs_one1]
  simp only [Nat.max_le, List.length_nil, List.length_cons]
  omega
theorem rlarge_rat (V : Value) (x y : Rat) (w : World) (hV : RN w w.heap.size V x y) :
    Calls Try.prog 65 #[V] w fun e w' => e = .returned (.bool (!decide (qw x ≤ 512 ∧ qw y ≤ 512))) ∧ Below w.heap.size w w' := by
  have h := rlarge_any V (rwq x) (rwq y) w hV
  rw [largeB_q] at h
  exact h
theorem rlarge_real (V : Value) (x : Rat) (w : World) (hV : RN w w.heap.size V x 0) :
    Calls Try.prog 65 #[V] w fun e w' => e = .returned (.bool (!decide ((digs (qt x)).length ≤ 512 ∧ (digs (qd x)).length ≤ 512))) ∧ Below w.heap.size w w' := by
  have h := rlarge_rat V x 0 w hV
  rw [decide_eq_decide.2 (qw_real x)] at h
  exact h


theorem rexpt_cxp (V : Value) (x y : Rat) (n : Int) (w : World) (hV : RN w w.heap.size V x y) (bx : qw x ≤ 512) (by_ : qw y ≤ 512) (h1 : ¬ n < -1024) (h2 : ¬ 1024 < n) (h3 : n ≠ 0) (hn : ¬ n < 0) (hy : (digs (qt y)).length ≠ 0) (m : Nat) (hm : n.natAbs = m) :
    Calls Try.prog 28 #[V, .int .i64 n] w (RetNE w (if stopB x y m = true then (rw0, rw0, 4) else (fitQ (cpow x y m).1 (cpow x y m).2))) := by
  refine rexpt_cx_pos V x y n w hV bx by_ hy m (by omega) (by omega) (by omega) (by omega) (fun k => (cpow x y k).1) (fun k => (cpow x y k).2) rfl rfl
    (fun k V U w' g1 g2 hb => rtimes_rat V U (cpow x y k).1 (cpow x y k).2 x y w' g1 g2 (by omega) (by omega) (by omega) (by omega)) (fun k V w' h => rlarge_rat V _ _ w' h)
    (fitQ (cpow x y m).1 (cpow x y m).2).1 (fitQ (cpow x y m).1 (cpow x y m).2).2.1 (fitQ (cpow x y m).1 (cpow x y m).2).2.2 _  (fun A1 D1 A2 D2 c1 d1 c2 d2 base w' h1 h2 h3 h4 => rfitq_any _ _ A1 D1 A2 D2 c1 d1 c2 d2 base w' h1 h2 h3 h4) (fun k hk hb => ?_) (fun hall => ?_)
  · rw [if_pos (stop_le (stop_some (by omega) (by unfold bigB; rw [decide_eq_false hb]; rfl)) (show k + 1 ≤ m by omega))]
  · rw [if_neg (by
      rw [stop_none (fun k hk1 hk2 => by unfold bigB; rw [decide_eq_true (hall k hk2)]; rfl)]
      simp)]


theorem rexpt_cxn (V : Value) (x y : Rat) (n : Int) (w : World) (hV : RN w w.heap.size V x y) (bx : qw x ≤ 512) (by_ : qw y ≤ 512) (h1 : ¬ n < -1024) (h2 : ¬ 1024 < n) (h3 : n ≠ 0) (hn : n < 0) (hy : (digs (qt y)).length ≠ 0) (m : Nat) (hm : n.natAbs = m) :
    Calls Try.prog 28 #[V, .int .i64 n] w (RetNE w (if stopB x y m = true then (rw0, rw0, 4) else (fitQ (invQ (cpow x y m)).1 (invQ (cpow x y m)).2))) := by
  refine rexpt_cx_neg V x y n w hV bx by_ hy m (by omega) (by omega) (by omega) (by omega) (fun k => (cpow x y k).1) (fun k => (cpow x y k).2) rfl rfl
    (fun k V U w' g1 g2 hb => rtimes_rat V U (cpow x y k).1 (cpow x y k).2 x y w' g1 g2 (by omega) (by omega) (by omega) (by omega)) (fun k V w' h => rlarge_rat V _ _ w' h)
    (fitQ (invQ (cpow x y m)).1 (invQ (cpow x y m)).2).1 (fitQ (invQ (cpow x y m)).1 (invQ (cpow x y m)).2).2.1 (fitQ (invQ (cpow x y m)).1 (invQ (cpow x y m)).2).2.2 _ (invQ (cpow x y m)).1 (invQ (cpow x y m)).2 (fun V w' h hb => rinverse_any V _ _ w' h (cpow_ne (fun h => hy (by rw [h.2]; exact digs_len0.2 rfl)) m) (by omega) (by omega)) (fun A1 D1 A2 D2 c1 d1 c2 d2 base w' h1 h2 h3 h4 => rfitq_any _ _ A1 D1 A2 D2 c1 d1 c2 d2 base w' h1 h2 h3 h4) (fun k hk hb => ?_) (fun hall => ?_)
  · rw [if_pos (stop_le (stop_some (by omega) (by unfold bigB; rw [decide_eq_false hb]; rfl)) (show k + 1 ≤ m by omega))]
  · rw [if_neg (by
      rw [stop_none (fun k hk1 hk2 => by unfold bigB; rw [decide_eq_true (hall k hk2)]; rfl)]
      simp)]


theorem rexpt_rea (V : Value) (x : Rat) (n : Int) (w : World) (hV : RN w w.heap.size V x 0) (bx : qw x ≤ 512) (by_ : qw 0 ≤ 512) (h1 : ¬ n < -1024) (h2 : ¬ 1024 < n) (h3 : n ≠ 0) (hn : ¬ n < 0) (hx : ¬ (x = 0 ∧ (0 : Rat) = 0)) (m : Nat) (hm : n.natAbs = m) :
    Calls Try.prog 28 #[V, .int .i64 n] w (RetNE w (if stopB x 0 m = true then (rw0, rw0, 4) else (fitQ (rp x m) 0))) := by
  have hbg := big_real x
  refine rexpt_real_a V x 0 n w hV bx by_ (digs_len0.2 rfl) m (by omega) (by omega) (by omega) (by omega) hx (rp x) rfl (fun k => (rx_step x k).1) (fun k => (rx_step x k).2.1) (fun k => (rx_step x k).2.2) (fun k V w' h => rlarge_real V _ w' h)
    (fitQ (rp x m) 0).1 (fitQ (rp x m) 0).2.1 (fitQ (rp x m) 0).2.2 _  (fun A1 D1 A2 D2 c1 d1 c2 d2 base w' h1 h2 h3 h4 => rfitq_any _ _ A1 D1 A2 D2 c1 d1 c2 d2 base w' h1 h2 h3 h4) (fun k hk hb => ?_) (fun hall => ?_)
  · rw [if_pos (stop_le (stop_some (by omega) ((hbg (k + 1)).2 (by obtain ⟨r1, r2, _⟩ := rp_facts x (k + 1); rw [r1, r2] at hb; omega))) (show k + 1 ≤ m by omega))]
  · rw [if_neg (by
      rw [stop_none (fun k hk1 hk2 => by
        have hk := hall k hk2
        obtain ⟨r1, r2, _⟩ := rp_facts x k
        rw [r1, r2] at hk
        cases hb : bigB (cpow x 0 k) with
        | false => rfl
        | true => have := (hbg k).1 hb; omega)]
      simp)]


theorem rexpt_reb (V : Value) (x : Rat) (n : Int) (w : World) (hV : RN w w.heap.size V x 0) (bx : qw x ≤ 512) (by_ : qw 0 ≤ 512) (h1 : ¬ n < -1024) (h2 : ¬ 1024 < n) (h3 : n ≠ 0) (hn : ¬ n < 0) (hx : (x = 0 ∧ (0 : Rat) = 0)) (m : Nat) (hm : n.natAbs = m) :
    Calls Try.prog 28 #[V, .int .i64 n] w (RetNE w (if stopB x 0 m = true then (rw0, rw0, 4) else (fitQ (rp x m) 0))) := by
  have hbg := big_real x
  refine rexpt_real_b V x 0 n w hV bx by_ (digs_len0.2 rfl) m (by omega) (by omega) (by omega) (by omega) hx (rp x) rfl (fun k => (rx_step x k).1) (fun k => (rx_step x k).2.1) (fun k => (rx_step x k).2.2) (fun k V w' h => rlarge_real V _ w' h)
    (fitQ (rp x m) 0).1 (fitQ (rp x m) 0).2.1 (fitQ (rp x m) 0).2.2 _  (fun A1 D1 A2 D2 c1 d1 c2 d2 base w' h1 h2 h3 h4 => rfitq_any _ _ A1 D1 A2 D2 c1 d1 c2 d2 base w' h1 h2 h3 h4) (fun k hk hb => ?_) (fun hall => ?_)
  · rw [if_pos (stop_le (stop_some (by omega) ((hbg (k + 1)).2 (by obtain ⟨r1, r2, _⟩ := rp_facts x (k + 1); rw [r1, r2] at hb; omega))) (show k + 1 ≤ m by omega))]
  · rw [if_neg (by
      rw [stop_none (fun k hk1 hk2 => by
        have hk := hall k hk2
        obtain ⟨r1, r2, _⟩ := rp_facts x k
        rw [r1, r2] at hk
        cases hb : bigB (cpow x 0 k) with
        | false => rfl
        | true => have := (hbg k).1 hb; omega)]
      simp)]


theorem rexpt_rec (V : Value) (x : Rat) (n : Int) (w : World) (hV : RN w w.heap.size V x 0) (bx : qw x ≤ 512) (by_ : qw 0 ≤ 512) (h1 : ¬ n < -1024) (h2 : ¬ 1024 < n) (h3 : n ≠ 0) (hn : n < 0) (hx : ¬ (x = 0 ∧ (0 : Rat) = 0)) (m : Nat) (hm : n.natAbs = m) :
    Calls Try.prog 28 #[V, .int .i64 n] w (RetNE w (if stopB x 0 m = true then (rw0, rw0, 4) else (fitQ (rp x m)⁻¹ 0))) := by
  have hbg := big_real x
  have hI : ∀ V w', RN w' w'.heap.size V (rp x m) 0 → (digs (qt (rp x m))).length ≤ 512 ∧ (digs (qd (rp x m))).length ≤ 512 → Calls Try.prog 52 #[V] w' (RetP w' (rp x m)⁻¹ 0) := by
    intro V w' h hb
    have hb2 := (qw_real (rp x m)).2 hb
    have hne := cpow_ne hx m
    rw [cpow_real] at hne
    have hh := rinverse_any V (rp x m) 0 w' h hne (by omega) (by omega)
    have e1 := congrArg Prod.fst (inv_real (rp x m))
    have e2 := congrArg Prod.snd (inv_real (rp x m))
    unfold invQ at e1 e2
    dsimp only at e1 e2
    rw [e1, e2] at hh
    exact hh
  refine rexpt_real_c V x 0 n w hV bx by_ (digs_len0.2 rfl) m (by omega) (by omega) (by omega) (by omega) hx (rp x) rfl (fun k => (rx_step x k).1) (fun k => (rx_step x k).2.1) (fun k => (rx_step x k).2.2) (fun k V w' h => rlarge_real V _ w' h)
    (fitQ (rp x m)⁻¹ 0).1 (fitQ (rp x m)⁻¹ 0).2.1 (fitQ (rp x m)⁻¹ 0).2.2 _ (rp x m)⁻¹ hI (fun A1 D1 A2 D2 c1 d1 c2 d2 base w' h1 h2 h3 h4 => rfitq_any _ _ A1 D1 A2 D2 c1 d1 c2 d2 base w' h1 h2 h3 h4) (fun k hk hb => ?_) (fun hall => ?_)
  · rw [if_pos (stop_le (stop_some (by omega) ((hbg (k + 1)).2 (by obtain ⟨r1, r2, _⟩ := rp_facts x (k + 1); rw [r1, r2] at hb; omega))) (show k + 1 ≤ m by omega))]
  · rw [if_neg (by
      rw [stop_none (fun k hk1 hk2 => by
        have hk := hall k hk2
        obtain ⟨r1, r2, _⟩ := rp_facts x k
        rw [r1, r2] at hk
        cases hb : bigB (cpow x 0 k) with
        | false => rfl
        | true => have := (hbg k).1 hb; omega)]
      simp)]


theorem rexpt_any {V : Value} {r i : Rw} {n : Int} {w : World} (hV : VN w w.heap.size V r i) : Calls Try.prog 28 #[V, .int .i64 n] w (RetNE w (qexptA r i n)) := by
  unfold qexptA
  by_cases h : nB r i = true
  · rw [if_pos h]
    obtain ⟨x, y, rfl, rfl, bx, by_⟩ := nB_rat h
    rw [qv_rwq, qv_rwq]
    unfold exptQ
    by_cases g1 : n < -1024 ∨ 1024 < n
    · rw [if_pos g1]
      exact rexpt_arg V x y n w hV bx by_ g1
    rw [if_neg g1]
    by_cases g2 : n = 0
    · rw [if_pos g2]
      subst g2
      exact rexpt_one V x y w hV bx by_
    rw [if_neg g2]
    by_cases g3 : (x = 0 ∧ y = 0) ∧ n < 0
    · rw [if_pos g3]
      exact rexpt_zero V x y n w hV bx by_ g3.1 g3.2 (by omega)
    rw [if_neg g3]
    by_cases hy : (digs (qt y)).length = 0
    · obtain rfl : y = 0 := qt_zero.1 (digs_len0.1 hy)
      rw [cpow_real, inv_real]
      by_cases hn : n < 0
      · simp only [if_pos hn]
        exact rexpt_rec V x n w hV bx by_ (by omega) (by omega) g2 hn (fun hx => g3 ⟨hx, hn⟩) _ rfl
      · simp only [if_neg hn]
        by_cases hx : x = 0 ∧ (0 : Rat) = 0
        · exact rexpt_reb V x n w hV bx by_ (by omega) (by omega) g2 hn hx _ rfl
        · exact rexpt_rea V x n w hV bx by_ (by omega) (by omega) g2 hn hx _ rfl
    · by_cases hn : n < 0
      · simp only [if_pos hn]
        exact rexpt_cxn V x y n w hV bx by_ (by omega) (by omega) g2 hn hy _ rfl
      · simp only [if_neg hn]
        exact rexpt_cxp V x y n w hV bx by_ (by omega) (by omega) g2 hn hy _ rfl
  · rw [if_neg h]
    exact rexpt_bad V r i n w hV h
end Go.Proofs.Ytdkejndagicgjaa
