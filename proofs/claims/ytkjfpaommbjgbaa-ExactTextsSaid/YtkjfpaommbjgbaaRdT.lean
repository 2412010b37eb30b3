/- Plain law of ExactReads: prefixes, then the number; the program's answer is the reference's. -/
import Derived.Test.YtkjfpaommbjgbaaRdS
import Derived.Test.YtkjfpaommbjgbaaGI
namespace Go.Proofs.Ytkjfpaommbjgbaa

/-- a letter's radix; 0: it has none -/
def radL (c : UInt8) : Nat := if c = 98 ∨ c = 66 then 2 else if c = 111 ∨ c = 79 then 8 else if c = 100 ∨ c = 68 then 10 else if c = 120 ∨ c = 88 then 16 else 0
/-- # and letters: the radix they leave, and the rest; none: they are not of the form -/
def preF (r : Nat) (told ex : Bool) : List UInt8 → Option (Nat × List UInt8)
  | [] => some (r, [])
  | [a] => if a = 35 then none else some (r, [a])
  | a :: c :: t => if a = 35 then (if (c = 101 ∨ c = 69) ∧ ex = false then preF r told true t else if radL c ≠ 0 ∧ told = false then preF (radL c) true ex t else none) else some (r, a :: c :: t)
theorem radL_or (c : UInt8) : radL c = (if c ||| 32 = 98 then 2 else if c ||| 32 = 111 then 8 else if c ||| 32 = 100 then 10 else if c ||| 32 = 120 then 16 else 0) := by
  have h : ∀ n : Fin 256, radL (UInt8.ofNat n) = (if UInt8.ofNat n ||| 32 = 98 then 2 else if UInt8.ofNat n ||| 32 = 111 then 8 else if UInt8.ofNat n ||| 32 = 100 then 10 else if UInt8.ofNat n ||| 32 = 120 then 16 else 0) := by decide +kernel
  have := h ⟨c.toNat, c.toNat_lt⟩
  simpa using this
theorem e_or (c : UInt8) : (c ||| 32 = 101) ↔ (c = 101 ∨ c = 69) := by
  have h : ∀ n : Fin 256, (UInt8.ofNat n ||| 32 = 101) ↔ (UInt8.ofNat n = 101 ∨ UInt8.ofNat n = 69) := by decide +kernel
  have := h ⟨c.toNat, c.toNat_lt⟩
  simpa using this
def rdOk (r : Nat) : Prop := r = 2 ∨ r = 8 ∨ r = 10 ∨ r = 16
theorem radL_ok {c : UInt8} (h : radL c ≠ 0) : rdOk (radL c) := by
  unfold radL at h ⊢
  unfold rdOk
  repeat' split
  all_goals first | omega | simp_all
theorem preF_ok (n : Nat) : ∀ (s : List UInt8) (r k : Nat) (told ex : Bool) (t : List UInt8), s.length ≤ n → rdOk r → preF r told ex s = some (k, t) → rdOk k ∧ t.length ≤ s.length := by
  induction n with
  | zero =>
    intro s r k told ex t hl hr h
    have : s = [] := by cases s; rfl; simp at hl
    subst this
    simp only [preF, Option.some.injEq, Prod.mk.injEq] at h
    obtain ⟨rfl, rfl⟩ := h
    exact ⟨hr, by simp⟩
  | succ n ih =>
    intro s r k told ex t hl hr h
    match s with
    | [] =>
      simp only [preF, Option.some.injEq, Prod.mk.injEq] at h
      obtain ⟨rfl, rfl⟩ := h
      exact ⟨hr, by simp⟩
    | [a] =>
      unfold preF at h
      split at h
      · simp at h
      · simp only [Option.some.injEq, Prod.mk.injEq] at h
        obtain ⟨rfl, rfl⟩ := h
        exact ⟨hr, by simp⟩
    | a :: c :: s =>
      unfold preF at h
      have hl2 : s.length ≤ n := by simp at hl; omega
      split at h
      · split at h
        · have := ih s _ _ _ _ _ hl2 hr h
          exact ⟨this.1, by simp; omega⟩
        · split at h
          · rename_i h3
            have := ih s _ _ _ _ _ hl2 (radL_ok h3.1) h
            exact ⟨this.1, by simp; omega⟩
          · simp at h
      · simp only [Option.some.injEq, Prod.mk.injEq] at h
        obtain ⟨rfl, rfl⟩ := h
        exact ⟨hr, by simp⟩
/-- what is read without an error fits -/
def FitR (x : Rw) : Prop := ∃ q : Rat, x = rwq q ∧ qw q ≤ 512
theorem FitR.zero : FitR (rwq 0) := ⟨0, rfl, by unfold qw; rw [show qt 0 = 0 from rfl, show qd 0 = 1 from rfl, digs_zero, digs_one1]; decide⟩
theorem FitR.mk_ {a b : List Nat} (neg : Bool) (ha : ∃ n, a = digs n ∧ a.length ≤ 512) (hb : ∃ n, b = digs n ∧ b.length ≤ 512) (h0 : b ≠ []) : FitR (mkr neg a b) := by
  obtain ⟨n, rfl, h1⟩ := ha
  obtain ⟨m, rfl, h2⟩ := hb
  refine ⟨_, rfl, ?_⟩
  rw [val_digs, val_digs]
  refine qw_ratN neg n m ?_ h1 h2
  rintro rfl
  exact h0 digs_zero
theorem one_dig : ∃ n, ([1] : List Nat) = digs n ∧ ([1] : List Nat).length ≤ 512 := ⟨1, digs_one1.symm, by decide⟩
theorem rdr_fit {r : Nat} (ds : List UInt8) (h : (rdr r ds).2 = 0) : ∃ n, (rdr r ds).1 = digs n ∧ (rdr r ds).1.length ≤ 512 := by
  refine ⟨_, rfl, ?_⟩
  unfold rdr at h ⊢
  dsimp only at h ⊢
  unfold readA readD at h ⊢
  split at h
  · simp at h
  · rename_i g1
    rw [if_neg g1]
    split at h
    · simp at h
    · rename_i g2
      rw [if_neg g2]
      split at h
      · rename_i g3
        rw [if_pos g3]
        split at h
        · simp at h
        · rename_i g4
          rw [if_neg g4]
          unfold fitA at h ⊢
          split at h
          · rename_i g5; rw [if_pos g5]; exact g5
          · simp at h
      · simp at h
theorem piece_fit {r : Nat} {neg : Bool} {s t : List UInt8} {q : Rw} (h : pieceR (isDr r) (rdr r) mkr (rwq 0) s neg = some (t, q, 0)) : FitR q := by
  unfold pieceR at h
  split at h
  · simp at h
  · split at h
    · split at h
      · simp at h
      · split at h
        · simp at h
        · rename_i g3
          split at h
          · simp at h
          · rename_i g4
            simp only [Option.some.injEq, Prod.mk.injEq, and_true] at h
            obtain ⟨_, rfl⟩ := h
            simp only [ne_eq, not_or, Classical.not_not] at g3
            exact FitR.mk_ neg (rdr_fit _ g3.1) (rdr_fit _ g3.2) g4
    · simp only [Option.some.injEq, Prod.mk.injEq] at h
      obtain ⟨_, rfl, he⟩ := h
      exact FitR.mk_ neg (rdr_fit _ he) one_dig (by simp)
theorem worse_zero {e f : Int} (h : worseE e f = 0) : e = 0 ∧ f = 0 := by
  unfold worseE at h
  split at h
  · omega
  · split at h
    · omega
    · rename_i h2
      exact ⟨by simpa using h2, h⟩
theorem body_fit {r : Nat} {s : List UInt8} {x y : Rw} (h : bodyR (isDr r) (rdr r) mkr (rwq 0) s = some (x, y, 0)) : FitR x ∧ FitR y := by
  have hu : ∀ neg, FitR (mkr neg [1] [1]) := fun neg => FitR.mk_ neg one_dig one_dig (by simp)
  unfold bodyR at h
  split at h
  · simp only [Option.some.injEq, Prod.mk.injEq, and_true] at h
    obtain ⟨rfl, rfl⟩ := h
    exact ⟨FitR.zero, hu _⟩
  · cases hp : pieceR (isDr r) (rdr r) mkr (rwq 0) (sgnP s).2.2 (sgnP s).1 with
    | none => rw [hp] at h; simp at h
    | some p =>
      obtain ⟨s2, re, e⟩ := p
      rw [hp] at h
      dsimp only at h
      split at h
      · simp only [Option.some.injEq, Prod.mk.injEq] at h
        obtain ⟨rfl, rfl, rfl⟩ := h
        exact ⟨piece_fit hp, FitR.zero⟩
      · split at h
        · simp only [Option.some.injEq, Prod.mk.injEq] at h
          obtain ⟨rfl, rfl, rfl⟩ := h
          exact ⟨FitR.zero, piece_fit hp⟩
        · split at h
          · simp at h
          · split at h
            · simp only [Option.some.injEq, Prod.mk.injEq] at h
              obtain ⟨rfl, rfl, rfl⟩ := h
              exact ⟨piece_fit hp, hu _⟩
            · cases hp2 : pieceR (isDr r) (rdr r) mkr (rwq 0) (sgnP s2).2.2 (sgnP s2).1 with
              | none => rw [hp2] at h; simp at h
              | some p2 =>
                obtain ⟨s4, im, f⟩ := p2
                rw [hp2] at h
                dsimp only at h
                split at h
                · simp only [Option.some.injEq, Prod.mk.injEq] at h
                  obtain ⟨rfl, rfl, hw⟩ := h
                  obtain ⟨rfl, rfl⟩ := worse_zero hw
                  exact ⟨piece_fit hp, piece_fit hp2⟩
                · simp at h
/-- Read as the program goes -/
def readQ (s : List UInt8) (r : Nat) : Rw × Rw × Int :=
  match preF r false false s with
  | none => (rw0, rw0, 5)
  | some (k, t) => match numP (isDr k) (rdr k) mkr (rwq 0) t 0 with
    | (re, im, ok, e) => if ok = false then (rw0, rw0, 5) else if 16384 < s.length then (rw0, rw0, 4) else if e ≠ 0 then (rw0, rw0, e) else fitQ (qv re) (qv im)
/-- Read as the reference goes -/
def readF (s : List UInt8) (r : Nat) : Rw × Rw × Int :=
  match preF r false false s with
  | none => (rw0, rw0, 5)
  | some (k, t) => match bodyR (isDr k) (rdr k) mkr (rwq 0) t with
    | none => (rw0, rw0, 5)
    | some (re, im, e) => if 16384 < s.length then (rw0, rw0, 4) else if e ≠ 0 then (rw0, rw0, e) else (re, im, 0)
theorem rdOk.le {r : Nat} (h : rdOk r) : 2 ≤ r ∧ r ≤ 16 := by unfold rdOk at h; omega
/-- the program's Read is the reference's; without an error its answer is sound -/
theorem read_same {s : List UInt8} {r : Nat} (hr : rdOk r) : readQ s r = readF s r ∧ ((readQ s r).2.2 = 0 → nB (readQ s r).1 (readQ s r).2.1 = true) := by
  unfold readQ readF
  cases hp : preF r false false s with
  | none => exact ⟨rfl, fun h => by simp at h⟩
  | some p =>
    obtain ⟨k, t⟩ := p
    have hk := (preF_ok _ s _ _ _ _ _ (Nat.le_refl _) hr hp).1.le
    have hb := num_body_r (r := k) hk.1 (by omega) t
    dsimp only
    cases hq : bodyR (isDr k) (rdr k) mkr (rwq 0) t with
    | none =>
      have h1 := hb.1 hq
      rcases hn : numP (isDr k) (rdr k) mkr (rwq 0) t 0 with ⟨re, im, ok, e⟩
      rw [hn] at h1
      dsimp only at h1 ⊢
      rw [if_pos h1]
      exact ⟨rfl, fun h => by simp at h⟩
    | some q =>
      obtain ⟨re, im, e⟩ := q
      obtain ⟨re', im', hn, he⟩ := hb.2 _ _ _ hq
      rw [hn]
      dsimp only
      rw [if_neg (by simp)]
      by_cases h1 : 16384 < s.length
      · rw [if_pos h1, if_pos h1]
        exact ⟨rfl, fun h => by simp at h⟩
      rw [if_neg h1, if_neg h1]
      by_cases h2 : e ≠ 0
      · rw [if_pos h2, if_pos h2]
        exact ⟨rfl, fun h => absurd h h2⟩
      rw [if_neg h2, if_neg h2]
      have h3 : e = 0 := by simpa using h2
      subst h3
      obtain ⟨rfl, rfl⟩ := he rfl
      obtain ⟨⟨x, rfl, hx⟩, ⟨y, rfl, hy⟩⟩ := body_fit hq
      rw [qv_rwq, qv_rwq, fitQ_ok hx hy]
      exact ⟨rfl, fun _ => nB_rwq hx hy⟩
end Go.Proofs.Ytkjfpaommbjgbaa
