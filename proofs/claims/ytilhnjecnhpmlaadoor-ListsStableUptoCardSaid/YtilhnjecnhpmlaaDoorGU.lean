/- Merged texts: SrtP, SrtA, SrtB. -/
import Derived.Test.YtilhnjecnhpmlaaDoorGH
import Derived.Test.YtilhnjecnhpmlaaDoorGL
namespace Go.Proofs.YtilhnjecnhpmlaaDoor

def swp (σ : Nat → Nat) (i j : Nat) : Nat → Nat := fun k => if k = i then σ j else if k = j then σ i else σ k
theorem swp_l (σ : Nat → Nat) (i j : Nat) : swp σ i j i = σ j := by simp [swp]
theorem swp_r (σ : Nat → Nat) (i j : Nat) : swp σ i j j = σ i := by unfold swp; split <;> simp_all
theorem swp_o (σ : Nat → Nat) {i j k : Nat} (h1 : k ≠ i) (h2 : k ≠ j) : swp σ i j k = σ k := by simp [swp, h1, h2]
/-- the order of items; q: as they compare -/
structure TOrd (q : Nat → Nat → Int) : Prop where
  turn : ∀ s t, q t s = -q s t
  tr : ∀ s t u, TR (q s t) (q t u) (q s u)
def tlt (q : Nat → Nat → Int) (s t : Nat) : Prop := q s t < 0 ∨ (q s t = 0 ∧ s < t)
section
variable {q : Nat → Nat → Int} {σ τ : Nat → Nat} {n a b m s t u : Nat}
theorem tlt.trans (h : TOrd q) (h1 : tlt q s t) (h2 : tlt q t u) : tlt q s u := by
  have h3 := h.tr s t u
  have h4 := h.tr u t s
  have e1 := h.turn s t
  have e2 := h.turn t u
  have e3 := h.turn s u
  unfold tlt TR at *
  omega
theorem tlt_tot (h : TOrd q) (hne : s ≠ t) : tlt q s t ∨ tlt q t s := by
  have e1 := h.turn s t
  unfold tlt
  omega
theorem tlt.asymm (h : TOrd q) (h1 : tlt q s t) (h2 : tlt q t s) : False := by
  have e1 := h.turn s t
  unfold tlt at *
  omega
theorem tlt.ne (h : TOrd q) (h1 : tlt q s t) : s ≠ t := fun e => by subst e; exact h1.asymm h h1
/-- the later one compares less -/
theorem tlt_less (hq : q s t < 0) : tlt q s t := .inl hq
/-- the earlier one is ahead, if the later one does not compare less -/
theorem tlt_keep (h : TOrd q) (hq : ¬ q t s < 0) (hst : s < t) : tlt q s t := by
  have e1 := h.turn s t
  unfold tlt
  omega
def Srt (q : Nat → Nat → Int) (σ : Nat → Nat) (a b : Nat) : Prop := ∀ i j, a ≤ i → i < j → j < b → tlt q (σ i) (σ j)
def PermS (n : Nat) (σ : Nat → Nat) : Prop := ((List.range n).map σ).Perm (List.range n)
theorem PermS.id (n : Nat) : PermS n id := by unfold PermS; simp
theorem PermS.lt (h : PermS n σ) {i : Nat} (hi : i < n) : σ i < n := by
  have : σ i ∈ (List.range n).map σ := List.mem_map.2 ⟨i, List.mem_range.2 hi, rfl⟩
  exact List.mem_range.1 (h.mem_iff.1 this)
theorem PermS.inj (h : PermS n σ) {i j : Nat} (hi : i < n) (hj : j < n) (e : σ i = σ j) : i = j := by
  have hn : ((List.range n).map σ).Nodup := h.nodup_iff.2 List.nodup_range
  have h1 : ∀ x y, x < y → y < n → σ x ≠ σ y := fun x y hxy hy => by
    have := List.pairwise_iff_getElem.1 hn x y (by simp; omega) (by simpa using hy) hxy
    simpa using this
  rcases Nat.lt_trichotomy i j with h2 | h2 | h2
  · exact absurd e (h1 i j h2 hj)
  · exact h2
  · exact absurd e.symm (h1 j i h2 hi)
theorem PermS.swp (h : PermS n σ) {i j : Nat} (hi : i < n) (hj : j < n) : PermS n (swp σ i j) := by
  refine List.Perm.trans ?_ h
  have h1 : i < ((List.range n).map σ).length := by simpa using hi
  have h2 : j < ((List.range n).map σ).length := by simpa using hj
  have := List.set_set_perm h1 h2
  refine List.Perm.trans (List.Perm.of_eq ?_) this
  refine List.ext_getElem (by simp) fun k hk1 hk2 => ?_
  have hk : k < n := by simpa using hk1
  simp only [List.getElem_map, List.getElem_range, List.getElem_set]
  unfold Proofs.YtilhnjecnhpmlaaDoor.swp
  by_cases e1 : k = j
  · by_cases e2 : k = i
    · subst e1; subst e2; simp
    · subst e1; simp [e2]
  · by_cases e2 : k = i
    · subst e2; simp [Ne.symm e1]
    · simp [e1, e2, Ne.symm e1, Ne.symm e2]
/-- sorted, and the same items: there is one such list -/
theorem srt_unique (h : TOrd q) {l1 l2 : List Nat} (hp : l1.Perm l2) (h1 : l1.Pairwise (tlt q)) (h2 : l2.Pairwise (tlt q)) : l1 = l2 :=
  hp.eq_of_pairwise (fun _ _ _ _ h3 h4 => (h3.asymm h h4).elim) h1 h2
theorem srt_pairwise (h : Srt q σ 0 n) : ((List.range n).map σ).Pairwise (tlt q) := by
  rw [List.pairwise_map]
  refine List.pairwise_iff_getElem.2 fun i j hi hj hij => ?_
  simp only [List.getElem_range] at *
  exact h i j (Nat.zero_le _) hij (by simpa using hj)
/-- insertion: the items ahead of i are sorted, the others lie as they came -/
structure InsI (q : Nat → Nat → Int) (σ : Nat → Nat) (a b i : Nat) : Prop where
  srt : Srt q σ a i
  rest : ∀ k, i ≤ k → k < b → σ k = k
  own : ∀ k, a ≤ k → k < i → a ≤ σ k ∧ σ k < i
theorem InsI.start (h : ∀ k, a ≤ k → k < b → σ k = k) (hab : a < b) : InsI q σ a b (a + 1) :=
  ⟨fun i j h1 h2 h3 => by omega, fun k h1 h2 => h k (by omega) h2, fun k h1 h2 => by
    have e : k = a := by omega
    subst e
    rw [h k (Nat.le_refl _) hab]; omega⟩
/-- the item i stands at j; without it all are sorted -/
structure InsJ (q : Nat → Nat → Int) (σ : Nat → Nat) (a b i j : Nat) : Prop where
  at_ : σ j = i
  le : a ≤ j ∧ j ≤ i
  srt : ∀ x y, a ≤ x → x < y → y ≤ i → x ≠ j → y ≠ j → tlt q (σ x) (σ y)
  up : ∀ y, j < y → y ≤ i → tlt q i (σ y)
  own : ∀ k, a ≤ k → k ≤ i → k ≠ j → a ≤ σ k ∧ σ k < i
  rest : ∀ k, i < k → k < b → σ k = k
theorem InsJ.start {i : Nat} (h : InsI q σ a b i) (hi : i < b) (hai : a ≤ i) : InsJ q σ a b i i :=
  ⟨h.rest i (Nat.le_refl _) hi, ⟨hai, Nat.le_refl _⟩, fun x y h1 h2 h3 h4 h5 => h.srt x y h1 h2 (by omega), fun y h1 h2 => by omega, fun k h1 h2 h3 => h.own k h1 (by omega), fun k h1 h2 => h.rest k (by omega) h2⟩
theorem InsJ.step (_hq : TOrd q) {i j : Nat} (h : InsJ q σ a b i j) (hj : a < j) (hc : q i (σ (j - 1)) < 0) : InsJ q (swp σ j (j - 1)) a b i (j - 1) := by
  have h1 := h.le
  refine ⟨by rw [swp_r]; exact h.at_, by omega, fun x y h2 h3 h4 h5 h6 => ?_, fun y h2 h3 => ?_, fun k h2 h3 h4 => ?_, fun k h2 h3 => ?_⟩
  · by_cases e : x = j
    · subst e
      rw [swp_l, swp_o σ (by omega) (by omega)]
      exact h.srt _ _ (by omega) (by omega) h4 (by omega) (by omega)
    · by_cases e2 : y = j
      · subst e2
        rw [swp_l, swp_o σ e h5]
        exact h.srt _ _ h2 (by omega) (by omega) (by omega) (by omega)
      · rw [swp_o σ e h5, swp_o σ e2 h6]
        exact h.srt _ _ h2 h3 h4 e e2
  · by_cases e : y = j
    · subst e
      rw [swp_l]
      exact tlt_less hc
    · rw [swp_o σ e (by omega)]
      exact h.up y (by omega) h3
  · by_cases e : k = j
    · subst e
      rw [swp_l]
      exact h.own _ (by omega) (by omega) (by omega)
    · rw [swp_o σ e h4]
      exact h.own k h2 h3 e
  · rw [swp_o σ (by omega) (by omega)]
    exact h.rest k h2 h3
theorem InsJ.end_ (hq : TOrd q) {i j : Nat} (h : InsJ q σ a b i j) (hc : j = a ∨ ¬ q i (σ (j - 1)) < 0) : InsI q σ a b (i + 1) := by
  have h1 := h.le
  have hlow : ∀ x, a ≤ x → x < j → tlt q (σ x) i := fun x h2 h3 => by
    rcases hc with hc | hc
    · omega
    · have h4 := (h.own (j - 1) (by omega) (by omega) (by omega)).2
      have h5 : tlt q (σ (j - 1)) i := tlt_keep hq hc h4
      by_cases e : x = j - 1
      · rw [e]; exact h5
      · exact (h.srt x (j - 1) h2 (by omega) (by omega) (by omega) (by omega)).trans hq h5
  refine ⟨fun x y h2 h3 h4 => ?_, fun k h2 h3 => h.rest k (by omega) h3, fun k h2 h3 => ?_⟩
  · by_cases e : x = j
    · subst e; rw [h.at_]; exact h.up y h3 (by omega)
    · by_cases e2 : y = j
      · subst e2; rw [h.at_]; exact hlow x h2 h3
      · exact h.srt x y h2 h3 (by omega) e e2
  · by_cases e : k = j
    · subst e; rw [h.at_]; omega
    · have := h.own k h2 (by omega) e; omega
/-- what a merge of [a, m) and [m, b) finds -/
structure SymP (q : Nat → Nat → Int) (σ : Nat → Nat) (a m b : Nat) : Prop where
  left : Srt q σ a m
  right : Srt q σ m b
  tags : ∀ i j, a ≤ i → i < m → m ≤ j → j < b → σ i < σ j
/-- what it leaves -/
structure SymQ (q : Nat → Nat → Int) (σ τ : Nat → Nat) (a b : Nat) : Prop where
  srt : Srt q τ a b
  out : ∀ k, k < a ∨ b ≤ k → τ k = σ k
  from_ : ∀ i, a ≤ i → i < b → ∃ j, a ≤ j ∧ j < b ∧ τ i = σ j
/-- one item ahead: found its place i, moved there -/
theorem sym_one (_hq : TOrd q) {i : Nat} (h : SymP q σ a (a + 1) b) (hi : a + 1 ≤ i ∧ i ≤ b) (h1 : ∀ x, a + 1 ≤ x → x < i → tlt q (σ x) (σ a)) (h2 : ∀ x, i ≤ x → x < b → tlt q (σ a) (σ x))
    (e1 : ∀ x, a ≤ x → x < i - 1 → τ x = σ (x + 1)) (e2 : τ (i - 1) = σ a) (e3 : ∀ x, x < a ∨ i ≤ x → τ x = σ x) : SymQ q σ τ a b := by
  refine ⟨fun x y h3 h4 h5 => ?_, fun k hk => e3 k (by omega), fun x h3 h4 => ?_⟩
  · by_cases c1 : x < i - 1
    · rw [e1 x h3 c1]
      by_cases c2 : y < i - 1
      · rw [e1 y (by omega) c2]; exact h.right _ _ (by omega) (by omega) (by omega)
      · by_cases c3 : y = i - 1
        · rw [c3, e2]; exact h1 _ (by omega) (by omega)
        · rw [e3 y (by omega)]; exact h.right _ _ (by omega) (by omega) (by omega)
    · by_cases c3 : x = i - 1
      · rw [c3, e2, e3 y (by omega)]; exact h2 _ (by omega) (by omega)
      · rw [e3 x (by omega), e3 y (by omega)]; exact h.right _ _ (by omega) (by omega) (by omega)
  · by_cases c1 : x < i - 1
    · exact ⟨x + 1, by omega, by omega, e1 x h3 c1⟩
    · by_cases c3 : x = i - 1
      · exact ⟨a, by omega, by omega, by rw [c3]; exact e2⟩
      · exact ⟨x, h3, h4, e3 x (by omega)⟩
/-- one item behind -/
theorem sym_last (_hq : TOrd q) {i : Nat} (h : SymP q σ a m (m + 1)) (hi : a ≤ i ∧ i ≤ m) (h1 : ∀ x, a ≤ x → x < i → tlt q (σ x) (σ m)) (h2 : ∀ x, i ≤ x → x < m → tlt q (σ m) (σ x))
    (e1 : ∀ x, i < x → x ≤ m → τ x = σ (x - 1)) (e2 : τ i = σ m) (e3 : ∀ x, x < i ∨ m < x → τ x = σ x) : SymQ q σ τ a (m + 1) := by
  refine ⟨fun x y h3 h4 h5 => ?_, fun k hk => e3 k (by omega), fun x h3 h4 => ?_⟩
  · by_cases c1 : x < i
    · rw [e3 x (by omega)]
      by_cases c2 : y < i
      · rw [e3 y (by omega)]; exact h.left _ _ (by omega) (by omega) (by omega)
      · by_cases c3 : y = i
        · rw [c3, e2]; exact h1 _ (by omega) (by omega)
        · rw [e1 y (by omega) (by omega)]; exact h.left _ _ (by omega) (by omega) (by omega)
    · by_cases c3 : x = i
      · rw [c3, e2, e1 y (by omega) (by omega)]; exact h2 _ (by omega) (by omega)
      · rw [e1 x (by omega) (by omega), e1 y (by omega) (by omega)]; exact h.left _ _ (by omega) (by omega) (by omega)
  · by_cases c1 : x < i
    · exact ⟨x, h3, h4, e3 x (by omega)⟩
    · by_cases c3 : x = i
      · exact ⟨m, by omega, by omega, by rw [c3]; exact e2⟩
      · exact ⟨x - 1, by omega, by omega, e1 x (by omega) (by omega)⟩
/-- [a, m) and [m, b) change places -/
def rot (σ : Nat → Nat) (a m b : Nat) : Nat → Nat := fun k => if a ≤ k ∧ k < a + (b - m) then σ (k - a + m) else if a + (b - m) ≤ k ∧ k < b then σ (k - (b - m)) else σ k
/-- start: so many of the left part stay ahead of mid -/
structure Cut (q : Nat → Nat → Int) (σ : Nat → Nat) (a m b mid st : Nat) : Prop where
  lo : a ≤ st ∧ st ≤ m
  hi : m ≤ mid + m - st ∧ mid + m - st ≤ b ∧ st ≤ mid
  below : ∀ x y, a ≤ x → x < st → mid + m - st ≤ y → y < b → tlt q (σ x) (σ y)
  above : ∀ x y, st ≤ x → x < m → m ≤ y → y < mid + m - st → tlt q (σ y) (σ x)
/-- behind the rotation the halves are such pairs again, and all of the first is ahead of all of the second -/
theorem Cut.halves {mid st : Nat} (h : SymP q σ a m b) (hc : Cut q σ a m b mid st) (hab : a ≤ mid ∧ mid ≤ b) :
    SymP q (rot σ st m (mid + m - st)) a st mid ∧ SymP q (rot σ st m (mid + m - st)) mid (mid + m - st) b ∧ (∀ x y, a ≤ x → x < mid → mid ≤ y → y < b → tlt q (rot σ st m (mid + m - st) x) (rot σ st m (mid + m - st) y)) ∧
    (∀ k, k < a ∨ b ≤ k → rot σ st m (mid + m - st) k = σ k) ∧ (∀ i, a ≤ i → i < b → ∃ j, a ≤ j ∧ j < b ∧ rot σ st m (mid + m - st) i = σ j) := by
  obtain ⟨h1, h2, h3, h4⟩ := hc
  have r1 : ∀ k, k < st → rot σ st m (mid + m - st) k = σ k := fun k hk => by unfold rot; rw [if_neg (by omega), if_neg (by omega)]
  have r2 : ∀ k, st ≤ k → k < mid → rot σ st m (mid + m - st) k = σ (k - st + m) := fun k h5 h6 => by unfold rot; rw [if_pos (by omega)]
  have r3 : ∀ k, mid ≤ k → k < mid + m - st → rot σ st m (mid + m - st) k = σ (k - (mid - st)) := fun k h5 h6 => by
    unfold rot; rw [if_neg (by omega), if_pos (by omega)]; congr 1; omega
  have r4 : ∀ k, mid + m - st ≤ k → rot σ st m (mid + m - st) k = σ k := fun k hk => by
    unfold rot; rw [if_neg (by omega), if_neg (by omega)]
  refine ⟨⟨fun i j h5 h6 h7 => ?_, fun i j h5 h6 h7 => ?_, fun i j h5 h6 h7 h8 => ?_⟩, ⟨fun i j h5 h6 h7 => ?_, fun i j h5 h6 h7 => ?_, fun i j h5 h6 h7 h8 => ?_⟩, fun x y h5 h6 h7 h8 => ?_, fun k hk => ?_, fun i h5 h6 => ?_⟩
  · rw [r1 i (by omega), r1 j h7]; exact h.left i j h5 h6 (by omega)
  · rw [r2 i h5 (by omega), r2 j (by omega) h7]; exact h.right _ _ (by omega) (by omega) (by omega)
  · rw [r1 i h6, r2 j h7 h8]; exact h.tags _ _ h5 (by omega) (by omega) (by omega)
  · rw [r3 i h5 (by omega), r3 j (by omega) h7]; exact h.left _ _ (by omega) (by omega) (by omega)
  · rw [r4 i h5, r4 j (by omega)]; exact h.right _ _ (by omega) h6 h7
  · rw [r3 i h5 h6, r4 j h7]; exact h.tags _ _ (by omega) (by omega) (by omega) h8
  · by_cases c1 : x < st
    · rw [r1 x c1]
      by_cases c2 : y < mid + m - st
      · rw [r3 y h7 c2]; exact h.left _ _ h5 (by omega) (by omega)
      · rw [r4 y (by omega)]; exact h3 _ _ h5 c1 (by omega) h8
    · rw [r2 x (by omega) h6]
      by_cases c2 : y < mid + m - st
      · rw [r3 y h7 c2]; exact h4 _ _ (by omega) (by omega) (by omega) (by omega)
      · rw [r4 y (by omega)]; exact h.right _ _ (by omega) (by omega) h8
  · rcases hk with hk | hk
    · exact r1 k (by omega)
    · exact r4 k (by omega)
  · by_cases c1 : i < st
    · exact ⟨i, h5, h6, r1 i c1⟩
    · by_cases c2 : i < mid
      · exact ⟨_, by omega, by omega, r2 i (by omega) c2⟩
      · by_cases c3 : i < mid + m - st
        · exact ⟨_, by omega, by omega, r3 i (by omega) c3⟩
        · exact ⟨i, h5, h6, r4 i (by omega)⟩
/-- both halves sorted -/
theorem sym_join {mid : Nat} {ρ τ2 : Nat → Nat} (hab : a ≤ mid ∧ mid ≤ b) (hcross : ∀ x y, a ≤ x → x < mid → mid ≤ y → y < b → tlt q (ρ x) (ρ y)) (ho : ∀ k, k < a ∨ b ≤ k → ρ k = σ k) (hf : ∀ i, a ≤ i → i < b → ∃ j, a ≤ j ∧ j < b ∧ ρ i = σ j)
    (h1 : SymQ q ρ τ a mid) (h2 : SymQ q τ τ2 mid b) : SymQ q σ τ2 a b := by
  have f2 : ∀ y, mid ≤ y → y < b → ∃ j, mid ≤ j ∧ j < b ∧ τ2 y = ρ j := fun y h3 h4 => by
    obtain ⟨j, h5, h6, h7⟩ := h2.from_ y h3 h4
    exact ⟨j, h5, h6, by rw [h7, h1.out j (by omega)]⟩
  have f1 : ∀ x, a ≤ x → x < mid → ∃ j, a ≤ j ∧ j < mid ∧ τ2 x = ρ j := fun x h3 h4 => by
    obtain ⟨j, h5, h6, h7⟩ := h1.from_ x h3 h4
    exact ⟨j, h5, h6, by rw [h2.out x (by omega), h7]⟩
  refine ⟨fun x y h3 h4 h5 => ?_, fun k hk => ?_, fun i h3 h4 => ?_⟩
  · by_cases c1 : y < mid
    · rw [h2.out x (by omega), h2.out y (by omega)]; exact h1.srt x y h3 h4 c1
    · by_cases c2 : x < mid
      · obtain ⟨j, g1, g2, g3⟩ := f1 x h3 c2
        obtain ⟨j2, g4, g5, g6⟩ := f2 y (by omega) h5
        rw [g3, g6]; exact hcross _ _ g1 g2 g4 g5
      · exact h2.srt x y (by omega) h4 h5
  · rw [h2.out k (by omega), h1.out k (by omega), ho k hk]
  · by_cases c1 : i < mid
    · obtain ⟨j, g1, g2, g3⟩ := f1 i h3 c1
      obtain ⟨j2, g4, g5, g6⟩ := hf j g1 (by omega)
      exact ⟨j2, g4, g5, by rw [g3, g6]⟩
    · obtain ⟨j, g1, g2, g3⟩ := f2 i (by omega) h4
      obtain ⟨j2, g4, g5, g6⟩ := hf j (by omega) g2
      exact ⟨j2, g4, g5, by rw [g3, g6]⟩
theorem SymQ.refl_ (h : Srt q σ a b) : SymQ q σ σ a b := ⟨h, fun _ _ => rfl, fun i h1 h2 => ⟨i, h1, h2, rfl⟩⟩
/-- a part that needs no merge is sorted -/
theorem SymP.triv (h : SymP q σ a m b) (hm : m ≤ a ∨ b ≤ m) : Srt q σ a b := fun i j h1 h2 h3 => by
  rcases hm with hm | hm
  · exact h.right i j (by omega) h2 h3
  · exact h.left i j h1 h2 (by omega)
end
end Go.Proofs.YtilhnjecnhpmlaaDoor
namespace Go.Proofs.YtilhnjecnhpmlaaDoor
open Go.RowKit

/-- the items in the order σ -/
def perml (l : List Dat) (σ : Nat → Nat) : List Dat := (List.range l.length).map fun i => l.getD (σ i) nilD
theorem perml_len (l : List Dat) (σ : Nat → Nat) : (perml l σ).length = l.length := by simp [perml]
theorem perml_get (l : List Dat) (σ : Nat → Nat) {i : Nat} (hi : i < (perml l σ).length) : (perml l σ)[i] = l.getD (σ i) nilD := by simp [perml]
theorem perml_id (l : List Dat) : perml l id = l := by
  refine List.ext_getElem (perml_len l id) fun i h1 h2 => ?_
  rw [perml_get, List.getD_eq_getElem?_getD]
  simp [h2]
theorem perml_swp (l : List Dat) (σ : Nat → Nat) {i j : Nat} : ((perml l σ).set i (l.getD (σ j) nilD)).set j (l.getD (σ i) nilD) = perml l (swp σ i j) := by
  refine List.ext_getElem (by simp [perml_len]) fun k h1 h2 => ?_
  rw [perml_get, List.getElem_set, List.getElem_set]
  by_cases e1 : j = k
  · subst e1; rw [if_pos rfl, swp_r]
  · rw [if_neg e1]
    by_cases e2 : i = k
    · subst e2; rw [if_pos rfl, swp_l]
    · rw [if_neg e2, perml_get, swp_o σ (Ne.symm e2) (Ne.symm e1)]
/-- a row whose items lie in the order σ -/
def RowS (w : World) (P : Nat → Prop) (g : Nat) (l : List Dat) (σ : Nat → Nat) : Prop := RowM w P g 0 (perml l σ)
section
variable {w w' : World} {P : Nat → Prop} {g : Nat} {l : List Dat} {σ : Nat → Nat}
theorem RowS.at_ (h : RowS w P g l σ) {i : Nat} (hi : i < l.length) : ∃ cs : List Value, cs.length = 11 ∧ (∀ u ∈ cs, u.oneCell' = true) ∧ SO w g (i * 11) cs ∧ RDP w P (l.getD (σ i) nilD) (.agg cs.toArray) := by
  obtain ⟨cs, h1, h2, h3⟩ := RowM.at_ h (i := i) (by rw [perml_len]; exact hi)
  rw [perml_get] at h3
  rw [Nat.zero_add] at h2
  obtain ⟨_, e, _, ho⟩ := h3.agg
  obtain rfl := congrArg Array.toList (Value.agg.inj e)
  exact ⟨cs, h1, ho, h2, h3⟩
theorem RowS.keep (h : RowS w P g l σ) (hP : ∀ b, P b → b < g) (hg : g < w.heap.size) (hb : Below w.heap.size w w') : RowS w' P g l σ := RowM.keep h (fun b hb => by have := hP b hb; omega) hb
theorem RowS.lo (h : RowS w P g l σ) (hP : ∀ b, P b → b < g) {B : Nat} (hg : g < B) (hb : Below B w w') : RowS w' P g l σ := fun i x hx => by
  obtain ⟨cs, h1, h2, h3⟩ := h i x hx
  exact ⟨cs, h1, ⟨fun j v hv => ⟨(hb.cell (p := ⟨g, _, none⟩) hg).trans (h2.1 j v hv).1, (hb.frozen (p := ⟨g, _, none⟩) hg).trans (h2.1 j v hv).2⟩, Nat.lt_of_lt_of_le h2.2 hb.size⟩, h3.keep (fun b hb => by have := hP b hb; omega) hb⟩
/-- two items change places -/
theorem RowS.swap (h : RowS w P g l σ) (hP : ∀ b, P b → b < g) (hg : g < w.heap.size) {i j : Nat} (hi : i < l.length) (hj : j < l.length) {cx cy : List Value} (lx : cx.length = 11) (ly : cy.length = 11) (hx : RDP w P (l.getD (σ j) nilD) (.agg cx.toArray)) (hy : RDP w P (l.getD (σ i) nilD) (.agg cy.toArray)) :
    RowS ((w.setCells g (i * 11) cx).setCells g (j * 11) cy) P g l (swp σ i j) := by
  have h1 := RowM.set h (fun b hb => ⟨by have := hP b hb; omega, by have := hP b hb; omega⟩) (i := i) (by rw [perml_len]; exact hi) lx hx
  rw [Nat.zero_add] at h1
  have hy : RDP (w.setCells g (i * 11) cx) P (l.getD (σ i) nilD) (.agg cy.toArray) := hy.step (fun z hz => World.heap_setCells_other w g _ _ (by have := hP z hz; omega) (by have := hP z hz; omega)) (fun _ h => h)
  have h2 := h1.set (fun b hb => ⟨by rw [size_sc]; have := hP b hb; omega, by have := hP b hb; omega⟩) (i := j) (by rw [List.length_set, perml_len]; exact hj) ly hy
  rw [Nat.zero_add, perml_swp] at h2
  exact h2
end
/-- only block g is written, of all that stand -/
structure Far (g : Nat) (w w' : World) : Prop where
  below : Below g w w'
  above : ∀ k, g < k → k < w.heap.size → w'.heap[k]? = w.heap[k]?
theorem Far.refl (g : Nat) (w : World) : Far g w w := ⟨Below.refl g w, fun _ _ _ => rfl⟩
theorem Far.trans {g : Nat} {w w1 w2 : World} (h1 : Far g w w1) (h2 : Far g w1 w2) : Far g w w2 :=
  ⟨h1.below.trans h2.below, fun k hk hw => (h2.above k hk (Nat.lt_of_lt_of_le hw h1.below.size)).trans (h1.above k hk hw)⟩
theorem Far.nx {g : Nat} {w w1 w2 : World} (h1 : Far g w w1) (h2 : Below w1.heap.size w1 w2) (hg : g ≤ w1.heap.size) : Far g w w2 :=
  h1.trans ⟨h2.mono hg, fun k _ hw => h2.block k hw⟩
theorem Far.sc {g : Nat} {w w1 : World} (h : Far g w w1) (o : Nat) (cs : List Value) : Far g w (w1.setCells g o cs) :=
  ⟨below_cso h.below (b := g) (Nat.le_refl _) o cs, fun k hk hw => (World.heap_setCells_other w1 g o cs (Nat.lt_of_lt_of_le hw h.below.size) (by omega)).trans (h.above k hk hw)⟩
theorem Far.dN {g : Nat} {w w1 : World} (h : Far g w w1) (n : Nat) : Far g w (w1.drewN n) := ⟨bdN h.below n, fun k hk hw => h.above k hk hw⟩
theorem SO.there {w : World} {b o : Nat} {vs : List Value} (h : SO w b o vs) (hl : vs.length = 11) : w.there b o 11 := fun q hq => by
  have := h.1 q _ (List.getElem?_eq_getElem (by omega))
  exact ⟨by rw [this.1]; rfl, this.2⟩
theorem there_sc {w : World} {b o n : Nat} (h : w.there b o n) (k : Nat) (cs : List Value) : (w.setCells b k cs).there b o n := fun j hj =>
  ⟨some_setCells b _ cs k w (h j hj).1, by rw [World.frozen?_setCells]; exact (h j hj).2⟩

/-- k items from a on change places with those from b on -/
def swr (σ : Nat → Nat) (a b k : Nat) : Nat → Nat := fun x => if a ≤ x ∧ x < a + k then σ (x - a + b) else if b ≤ x ∧ x < b + k then σ (x - b + a) else σ x
theorem swr_zero (σ : Nat → Nat) (a b : Nat) : swr σ a b 0 = σ := funext fun x => by unfold swr; rw [if_neg (by omega), if_neg (by omega)]
theorem swr_step (σ : Nat → Nat) {a b k i : Nat} (h : a + k ≤ b) (hi : i < k) : swp (swr σ a b i) (a + i) (b + i) = swr σ a b (i + 1) := funext fun x => by
  unfold swp
  by_cases e1 : x = a + i
  · subst e1
    rw [if_pos rfl]
    unfold swr
    rw [if_neg (by omega), if_neg (by omega), if_pos (by omega)]
    congr 1; omega
  · rw [if_neg e1]
    by_cases e2 : x = b + i
    · subst e2
      rw [if_pos rfl]
      unfold swr
      rw [if_neg (by omega), if_neg (by omega), if_neg (by omega), if_pos (by omega)]
      congr 1; omega
    · rw [if_neg e2]
      unfold swr
      by_cases c1 : a ≤ x ∧ x < a + i
      · rw [if_pos c1, if_pos (by omega)]
      · rw [if_neg c1]
        by_cases c2 : b ≤ x ∧ x < b + i
        · rw [if_pos c2, if_neg (by omega), if_pos (by omega)]
        · rw [if_neg c2, if_neg (by omega), if_neg (by omega)]
theorem PermS.swr {σ : Nat → Nat} {n a b k : Nat} (h : PermS n σ) (h1 : a + k ≤ b) (h2 : b + k ≤ n) : ∀ i, i ≤ k → PermS n (Proofs.YtilhnjecnhpmlaaDoor.swr σ a b i)
  | 0, _ => by rw [swr_zero]; exact h
  | i + 1, hi => by rw [← swr_step σ h1 (show i < k by omega)]; exact (h.swr h1 h2 i (by omega)).swp (by omega) (by omega)
set_option maxRecDepth 100000 in
set_option maxHeartbeats 16000000 in
theorem swaprange_any (g c : Nat) (l : List Dat) (σ : Nat → Nat) (a b k : Nat) (fv : Value) (w : World) (P : Nat → Prop) (hP : ∀ b, P b → b < g) (M : RowS w P g l σ) (hgw : g < w.heap.size) (_hl : l.length ≤ c) (hbig : l.length ≤ 10000) (h1 : a + k ≤ b) (h2 : b + k ≤ l.length) :
    Calls Tryd.prog 107 #[.slice (some ⟨g, 0, none⟩) l.length c, .int .i64 (a : Int), .int .i64 (b : Int), .int .i64 (k : Int), fv] w fun e w' => e = .returned (.tuple #[]) ∧ RowS w' P g l (swr σ a b k) ∧ Far g w w' ∧ g < w'.heap.size := by
  go_enter Tryd.func107, Tryd.ntmps107
  go_upto_region 1 with fail
  have BB := Far.refl g w
  rw [← swr_zero σ a b] at M
  go_loopg [10] k (fun gk s10 wx => ∃ i : Nat, s10 = .int .i64 (i : Int) ∧ i + gk = k ∧ RowS wx P g l (swr σ a b i) ∧ Far g w wx ∧ g < wx.heap.size)
  case atStart => exact ⟨0, rfl, by omega, M, BB, hgw⟩
  case round =>
    clear M BB hgw
    obtain ⟨i, rfl, hgk, M, BB, hgw⟩ := hrel
    by_cases hi : i < k
    · have hiz : (i : Int) < (k : Int) := by omega
      have hst := swr_step σ h1 hi
      replace hst := Lib.hid hst
      generalize swr σ a b i = ρ at *
      have hz1 : IntKind.i64.wrap ((a : Int) + (i : Int)) = ((a + i : Nat) : Int) := (IntWalk.i64_in _ (by omega)).trans (by omega)
      have hz2 : IntKind.i64.wrap ((b : Int) + (i : Int)) = ((b + i : Nat) : Int) := (IntWalk.i64_in _ (by omega)).trans (by omega)
      have hz3 : (a + i) < l.length := by omega
      have hz4 : (b + i) < l.length := by omega
      generalize ha' : a + i = x at *
      generalize hb' : b + i = y at *
      replace ha' := Lib.hid ha'
      replace hb' := Lib.hid hb'
      go_upto_region 3 with fail
      have hN : g ≤ wr.heap.size := Nat.le_of_lt hgw
      obtain ⟨cx, lx, ox, sx, rx⟩ := M.at_ (i := y) (by omega)
      obtain ⟨cy, ly, oy, sy, ry⟩ := M.at_ (i := x) (by omega)
      match cx, lx, ox, cy, ly, oy with
      | [x0, x1, x2, x3, x4, x5, x6, x7, x8, x9, x10], _, ox, [y0, y1, y2, y3, y4, y5, y6, y7, y8, y9, y10], _, oy =>
      have rgx := sx.range
      have rgy := sy.range
      have thi := sy.there rfl
      have thj := sx.there rfl
      have Dw := (Below.refl wr.heap.size wr).drew
      have M := M.keep hP hgw Dw
      have rx := rx.keep (fun b hb => by have := hP b hb; omega) Dw
      have ry := ry.keep (fun b hb => by have := hP b hb; omega) Dw
      have rgx := range_nx rgx Dw hgw
      have rgy := range_nx rgy Dw hgw
      have thi := there_nx thi Dw hgw
      have thj := there_nx thj Dw hgw
      have BB := BB.nx Dw (by omega)
      have hN := Nat.le_trans hN Dw.size
      have hgw : g < wr.drew.heap.size := Nat.lt_of_lt_of_le hgw Dw.size
      clear Dw sx sy
      refine AnyW.regionQ (fun j => j == 21 || j == 23) 24 (fun w' => w'.rangeAt g (y * 11) [x0, x1, x2, x3, x4, x5, x6, x7, x8, x9, x10] ∧ w'.rangeAt g (x * 11) [y0, y1, y2, y3, y4, y5, y6, y7, y8, y9, y10]) rfl (by kernel_rfl) (by kernel_rfl) (by (repeat (with_reducible (first | refine quiet_then ?_ | refine quiet_block ?_))); exact quiet_body) ⟨rgx, rgy⟩ (fun Q' hQK hq hns hHeld => ?_)
      generalize wr.drew = w4 at *
      clear rgx rgy
      refine AnyW.nextT (i := 0) (v := ?_) hq hns (.inr hHeld) rfl rfl (by kernel_rfl) (Or.inl ⟨by rfl, ?_⟩) ?_
      rotate_left
      · intro w' _; go_simp <;> with_reducible rfl
      try simp only [List.setIfInBounds_toArray, List.set_cons_zero, List.set_cons_succ]
      refine AnyW.nextT (i := 1) (v := ?_) hq hns (.inr hHeld) rfl rfl (by kernel_rfl) (Or.inl ⟨by rfl, ?_⟩) ?_
      rotate_left
      · intro w' _; go_simp <;> with_reducible rfl
      try simp only [List.setIfInBounds_toArray, List.set_cons_zero, List.set_cons_succ]
      refine AnyW.nextT (i := 2) (v := ?_) hq hns (.inr hHeld) rfl rfl (by kernel_rfl) (Or.inl ⟨by rfl, ?_⟩) ?_
      rotate_left
      · intro w' _; go_simp <;> with_reducible rfl
      try simp only [List.setIfInBounds_toArray, List.set_cons_zero, List.set_cons_succ]
      refine AnyW.nextT (i := 3) (v := ?_) hq hns (.inr hHeld) rfl rfl (by kernel_rfl) (Or.inl ⟨by rfl, ?_⟩) ?_
      rotate_left
      · intro w' _; go_simp <;> with_reducible rfl
      try simp only [List.setIfInBounds_toArray, List.set_cons_zero, List.set_cons_succ]
      refine AnyW.nextT (i := 4) (v := ?_) hq hns (.inr hHeld) rfl rfl (by kernel_rfl) (Or.inl ⟨by rfl, ?_⟩) ?_
      rotate_left
      · intro w' _; go_simp <;> with_reducible rfl
      try simp only [List.setIfInBounds_toArray, List.set_cons_zero, List.set_cons_succ]
      refine AnyW.nextT (i := 5) (v := ?_) hq hns (.inr hHeld) rfl rfl (by kernel_rfl) (Or.inl ⟨by rfl, ?_⟩) ?_
      rotate_left
      · intro w' _; go_simp <;> with_reducible rfl
      try simp only [List.setIfInBounds_toArray, List.set_cons_zero, List.set_cons_succ]
      refine AnyW.nextT (i := 6) (v := ?_) hq hns (.inr hHeld) rfl rfl (by kernel_rfl) (Or.inl ⟨by rfl, ?_⟩) ?_
      rotate_left
      · intro w' _; go_simp <;> with_reducible rfl
      try simp only [List.setIfInBounds_toArray, List.set_cons_zero, List.set_cons_succ]
      refine AnyW.nextT (i := 7) (v := ?_) hq hns (.inr hHeld) rfl rfl (by kernel_rfl) (Or.inl ⟨by rfl, ?_⟩) ?_
      rotate_left
      · intro w' _; go_simp <;> with_reducible rfl
      try simp only [List.setIfInBounds_toArray, List.set_cons_zero, List.set_cons_succ]
      refine AnyW.nextT (i := 8) (v := ?_) hq hns (.inr hHeld) rfl rfl (by kernel_rfl) (Or.inl ⟨by rfl, ?_⟩) ?_
      rotate_left
      · intro w' _; go_simp <;> with_reducible rfl
      try simp only [List.setIfInBounds_toArray, List.set_cons_zero, List.set_cons_succ]
      refine AnyW.nextT (i := 9) (v := ?_) hq hns (.inr hHeld) rfl rfl (by kernel_rfl) (Or.inl ⟨by rfl, ?_⟩) ?_
      rotate_left
      · intro w' _; go_simp <;> with_reducible rfl
      try simp only [List.setIfInBounds_toArray, List.set_cons_zero, List.set_cons_succ]
      refine AnyW.nextT (i := 10) (v := ?_) hq hns (.inr hHeld) rfl rfl (by kernel_rfl) (Or.inl ⟨by rfl, ?_⟩) ?_
      rotate_left
      · intro w' _; go_simp <;> with_reducible rfl
      try simp only [List.setIfInBounds_toArray, List.set_cons_zero, List.set_cons_succ]
      refine AnyW.nextT (i := 11) (v := ?_) hq hns (.inr hHeld) rfl rfl (by kernel_rfl) (Or.inl ⟨by rfl, ?_⟩) ?_
      rotate_left
      · intro w' _; go_simp <;> with_reducible rfl
      try simp only [List.setIfInBounds_toArray, List.set_cons_zero, List.set_cons_succ]
      refine AnyW.nextT (i := 12) (v := ?_) hq hns (.inr hHeld) rfl rfl (by kernel_rfl) (Or.inl ⟨by rfl, ?_⟩) ?_
      rotate_left
      · intro w' _; go_simp <;> with_reducible rfl
      try simp only [List.setIfInBounds_toArray, List.set_cons_zero, List.set_cons_succ]
      refine AnyW.next (i := 13) (v := .agg [x0, x1, x2, x3, x4, x5, x6, x7, x8, x9, x10].toArray) hq hns hHeld rfl rfl (by kernel_rfl) (yieldsIf_load_mid (by rfl) 31 (.tmp 28) rfl g (y * 11) rfl [x0, x1, x2, x3, x4, x5, x6, x7, x8, x9, x10] _ (fun w' h => h.1) Tryd.underlying31 rfl (infoD.trans (by rfl))) ?_
      try simp only [List.setIfInBounds_toArray, List.set_cons_zero, List.set_cons_succ]
      refine AnyW.nextT (i := 14) (v := ?_) hq hns (.inr hHeld) rfl rfl (by kernel_rfl) (Or.inl ⟨by rfl, ?_⟩) ?_
      rotate_left
      · intro w' _; go_simp <;> with_reducible rfl
      try simp only [List.setIfInBounds_toArray, List.set_cons_zero, List.set_cons_succ]
      refine AnyW.nextT (i := 15) (v := ?_) hq hns (.inr hHeld) rfl rfl (by kernel_rfl) (Or.inl ⟨by rfl, ?_⟩) ?_
      rotate_left
      · intro w' _; go_simp <;> with_reducible rfl
      try simp only [List.setIfInBounds_toArray, List.set_cons_zero, List.set_cons_succ]
      refine AnyW.nextT (i := 16) (v := ?_) hq hns (.inr hHeld) rfl rfl (by kernel_rfl) (Or.inl ⟨by rfl, ?_⟩) ?_
      rotate_left
      · intro w' _; go_simp <;> with_reducible rfl
      try simp only [List.setIfInBounds_toArray, List.set_cons_zero, List.set_cons_succ]
      refine AnyW.nextT (i := 17) (v := ?_) hq hns (.inr hHeld) rfl rfl (by kernel_rfl) (Or.inl ⟨by rfl, ?_⟩) ?_
      rotate_left
      · intro w' _; go_simp <;> with_reducible rfl
      try simp only [List.setIfInBounds_toArray, List.set_cons_zero, List.set_cons_succ]
      refine AnyW.nextT (i := 18) (v := ?_) hq hns (.inr hHeld) rfl rfl (by kernel_rfl) (Or.inl ⟨by rfl, ?_⟩) ?_
      rotate_left
      · intro w' _; go_simp <;> with_reducible rfl
      try simp only [List.setIfInBounds_toArray, List.set_cons_zero, List.set_cons_succ]
      refine AnyW.next (i := 19) (v := .agg [y0, y1, y2, y3, y4, y5, y6, y7, y8, y9, y10].toArray) hq hns hHeld rfl rfl (by kernel_rfl) (yieldsIf_load_mid (by rfl) 31 (.tmp 34) rfl g (x * 11) rfl [y0, y1, y2, y3, y4, y5, y6, y7, y8, y9, y10] _ (fun w' h => h.2) Tryd.underlying31 rfl (infoD.trans (by rfl))) ?_
      try simp only [List.setIfInBounds_toArray, List.set_cons_zero, List.set_cons_succ]
      refine AnyW.nextT (i := 20) (v := ?_) hq hns (.inr hHeld) rfl rfl (by kernel_rfl) (Or.inl ⟨by rfl, ?_⟩) ?_
      rotate_left
      · intro w' _; go_simp <;> with_reducible rfl
      try simp only [List.setIfInBounds_toArray, List.set_cons_zero, List.set_cons_succ]
      refine AnyW.one 21 (by kernel_rfl) rfl (fun K' hK => ?_)
      refine step_stDo rfl rfl (.tmp 36) (.tmp 29) rfl g (x * 11) rfl [x0, x1, x2, x3, x4, x5, x6, x7, x8, x9, x10] rfl rfl thi ox ?_
      refine hK.out _ _ (.inl ⟨21, rfl, rfl⟩) (fun _ => ?_)
      clear hK K'
      try simp only [List.setIfInBounds_toArray, List.set_cons_zero, List.set_cons_succ]
      refine AnyW.nextT (i := 22) (v := ?_) hq hns (.inl ⟨21, rfl, rfl⟩) rfl rfl (by kernel_rfl) (Or.inl ⟨by rfl, ?_⟩) ?_
      rotate_left
      · intro w' _; go_simp <;> with_reducible rfl
      try simp only [List.setIfInBounds_toArray, List.set_cons_zero, List.set_cons_succ]
      refine AnyW.one 23 (by kernel_rfl) rfl (fun K' hK => ?_)
      refine step_stDo rfl rfl (.tmp 37) (.tmp 35) rfl g (y * 11) rfl [y0, y1, y2, y3, y4, y5, y6, y7, y8, y9, y10] rfl rfl (there_sc thj _ _) oy ?_
      refine hK.out _ _ (.inl ⟨23, rfl, rfl⟩) (fun _ => ?_)
      clear hK K'
      try simp only [List.setIfInBounds_toArray, List.set_cons_zero, List.set_cons_succ]
      refine AnyW.done (by kernel_rfl) (hQK.out _ _ ?_)
      clear hQK hq hns hHeld thi thj
      have M := M.swap hP hgw (i := x) (j := y) (by omega) (by omega) rfl rfl rx ry
      have BB := (BB.sc (x * 11) [x0, x1, x2, x3, x4, x5, x6, x7, x8, x9, x10]).sc (y * 11) [y0, y1, y2, y3, y4, y5, y6, y7, y8, y9, y10]
      have hgw : g < ((w4.setCells g (x * 11) [x0, x1, x2, x3, x4, x5, x6, x7, x8, x9, x10]).setCells g (y * 11) [y0, y1, y2, y3, y4, y5, y6, y7, y8, y9, y10]).heap.size := by rw [size_sc, size_sc]; exact hgw
      clear rx ry
      rw [hst.out] at M
      generalize (w4.setCells g (x * 11) [x0, x1, x2, x3, x4, x5, x6, x7, x8, x9, x10]).setCells g (y * 11) [y0, y1, y2, y3, y4, y5, y6, y7, y8, y9, y10] = w6 at *
      clear hz1 hz2
      go_wp2_with fail
      go_roundg (k - (i + 1))
      case measure => omega
      case rel => exact ⟨i + 1, by simp, by omega, M, BB, hgw⟩
    · have hiz : ¬ (i : Int) < (k : Int) := by omega
      obtain rfl : i = k := by omega
      go_wp2_with fail
      go_end0
      exact ⟨rfl, M, BB, hgw⟩

/-- what of a rotation is done: [m - i, m) and [m, m + j) are left -/
structure RotI (τ ρ : Nat → Nat) (a m b i j : Nat) : Prop where
  lo : a ≤ m - i ∧ i ≤ m
  hi : m + j ≤ b
  pos : 0 < i ∧ 0 < j
  out : ∀ x, x < m - i ∨ m + j ≤ x → ρ x = τ x
  left : ∀ x, x < j → τ (m - i + x) = ρ (m + x)
  right : ∀ x, x < i → τ (m - i + j + x) = ρ (m - i + x)
theorem RotI.start {σ : Nat → Nat} {a m b : Nat} (h1 : a < m) (h2 : m < b) : RotI (rot σ a m b) σ a m b (m - a) (b - m) := by
  have r1 : ∀ k, k < a ∨ b ≤ k → rot σ a m b k = σ k := fun k hk => by unfold rot; rw [if_neg (by omega), if_neg (by omega)]
  refine ⟨by omega, by omega, by omega, fun x hx => (r1 x (by omega)).symm, fun x hx => ?_, fun x hx => ?_⟩
  · unfold rot; rw [if_pos (by omega)]; congr 1; omega
  · unfold rot; rw [if_neg (by omega), if_pos (by omega)]; congr 1; omega
theorem RotI.big {τ ρ : Nat → Nat} {a m b i j : Nat} (h : RotI τ ρ a m b i j) (hij : j < i) : RotI τ (swr ρ (m - i) m j) a m b (i - j) j := by
  obtain ⟨h1, h2, h3, h4, h5, h6⟩ := h
  refine ⟨by omega, h2, by omega, fun x hx => ?_, fun x hx => ?_, fun x hx => ?_⟩
  · unfold swr
    by_cases c : m - i ≤ x ∧ x < m - i + j
    · rw [if_pos c]
      have := h5 (x - (m - i)) (by omega)
      rw [show m - i + (x - (m - i)) = x by omega] at this
      rw [this]; congr 1; omega
    · rw [if_neg c, if_neg (by omega)]; exact h4 x (by omega)
  · unfold swr
    rw [if_neg (by omega), if_pos (by omega)]
    have := h6 x (by omega)
    rw [show m - i + j + x = m - (i - j) + x by omega] at this
    rw [this]; congr 1; omega
  · unfold swr
    rw [if_neg (by omega), if_neg (by omega)]
    have := h6 (j + x) (by omega)
    rw [show m - i + j + (j + x) = m - (i - j) + j + x by omega] at this
    rw [this]; congr 1; omega
theorem RotI.small {τ ρ : Nat → Nat} {a m b i j : Nat} (h : RotI τ ρ a m b i j) (hij : i < j) : RotI τ (swr ρ (m - i) (m + j - i) i) a m b i (j - i) := by
  obtain ⟨h1, h2, h3, h4, h5, h6⟩ := h
  refine ⟨h1, by omega, by omega, fun x hx => ?_, fun x hx => ?_, fun x hx => ?_⟩
  · unfold swr
    by_cases c : m + j - i ≤ x ∧ x < m + j - i + i
    · rw [if_neg (by omega), if_pos c]
      have := h6 (x - (m + j - i)) (by omega)
      rw [show m - i + j + (x - (m + j - i)) = x by omega] at this
      rw [this]; congr 1; omega
    · rw [if_neg (by omega), if_neg c]; exact h4 x (by omega)
  · unfold swr
    rw [if_neg (by omega), if_neg (by omega)]
    exact h5 x (by omega)
  · unfold swr
    rw [if_pos (by omega)]
    have := h5 (j - i + x) (by omega)
    rw [show m - i + (j - i + x) = m - i + (j - i) + x by omega] at this
    rw [this]; congr 1; omega
theorem RotI.end_ {τ ρ : Nat → Nat} {a m b i : Nat} (h : RotI τ ρ a m b i i) : swr ρ (m - i) m i = τ := funext fun x => by
  obtain ⟨h1, h2, h3, h4, h5, h6⟩ := h
  unfold swr
  by_cases c : m - i ≤ x ∧ x < m - i + i
  · rw [if_pos c]
    have := h5 (x - (m - i)) (by omega)
    rw [show m - i + (x - (m - i)) = x by omega] at this
    rw [this]; congr 1; omega
  · rw [if_neg c]
    by_cases c2 : m ≤ x ∧ x < m + i
    · rw [if_pos c2]
      have := h6 (x - m) (by omega)
      rw [show m - i + i + (x - m) = x by omega] at this
      rw [this]; congr 1; omega
    · rw [if_neg c2]; exact h4 x (by omega)
set_option maxRecDepth 100000 in
set_option maxHeartbeats 16000000 in
theorem rotate_any (g c : Nat) (l : List Dat) (σ : Nat → Nat) (a m b : Nat) (fv : Value) (w : World) (P : Nat → Prop) (hP : ∀ b, P b → b < g) (M : RowS w P g l σ) (hgw : g < w.heap.size) (hl : l.length ≤ c) (hbig : l.length ≤ 10000) (h1 : a < m) (h2 : m < b) (h3 : b ≤ l.length) (hp : PermS l.length σ) :
    Calls Tryd.prog 96 #[.slice (some ⟨g, 0, none⟩) l.length c, .int .i64 (a : Int), .int .i64 (m : Int), .int .i64 (b : Int), fv] w fun e w' => e = .returned (.tuple #[]) ∧ RowS w' P g l (rot σ a m b) ∧ PermS l.length (rot σ a m b) ∧ Far g w w' ∧ g < w'.heap.size := by
  have hz1 : IntKind.i64.wrap ((m : Int) - (a : Int)) = ((m - a : Nat) : Int) := (IntWalk.i64_in _ (by omega)).trans (by omega)
  have hz2 : IntKind.i64.wrap ((b : Int) - (m : Int)) = ((b - m : Nat) : Int) := (IntWalk.i64_in _ (by omega)).trans (by omega)
  have R0 := RotI.start (σ := σ) h1 h2
  generalize rot σ a m b = τ at *
  replace hp := Lib.hid hp
  generalize hi0 : m - a = i0 at *
  generalize hj0 : b - m = j0 at *
  have hij0 : i0 + j0 ≤ l.length := by omega
  replace hi0 := Lib.hid hi0
  replace hj0 := Lib.hid hj0
  go_enter Tryd.func96, Tryd.ntmps96
  go_upto_region 2 with fail
  clear hz1 hz2
  have BB := Far.refl g w
  go_loopg [10, 11] (i0 + j0) (fun gk s10 s11 wx => ∃ (i j : Nat) (ρ : Nat → Nat), s10 = .int .i64 (i : Int) ∧ s11 = .int .i64 (j : Int) ∧ i + j = gk ∧ RotI τ ρ a m b i j ∧ PermS l.length ρ ∧ RowS wx P g l ρ ∧ Far g w wx ∧ g < wx.heap.size)
  case atStart => exact ⟨i0, j0, σ, rfl, rfl, rfl, R0, hp.out, M, BB, hgw⟩
  case round =>
    clear M BB hgw R0 hp
    obtain ⟨i, j, ρ, rfl, rfl, hgk, R, hp, M, BB, hgw⟩ := hrel
    have ha := R.lo; have hb := R.hi; have hpos := R.pos
    obtain ⟨x, hx⟩ : ∃ x, m - i = x := ⟨_, rfl⟩
    have hz1 : IntKind.i64.wrap ((m : Int) - (i : Int)) = (x : Int) := (IntWalk.i64_in _ (by omega)).trans (by omega)
    by_cases hij : i = j
    · subst hij
      have hend := R.end_
      have hps := hp.swr (a := m - i) (b := m) (k := i) (by omega) (by omega) i (Nat.le_refl _)
      rw [hend] at hps
      rw [hx] at hend
      replace hend := Lib.hid hend
      replace hps := Lib.hid hps
      go_wp2_with fail
      refine (swaprange_any g c l ρ x m i fv wr P hP M hgw hl hbig (by omega) (by omega)).mono ?_
      rintro e w5 ⟨rfl, M, B5, hgw⟩
      rw [hend.out] at M
      have BB := BB.trans B5
      go_wp2_with fail
      go_end0
      exact ⟨rfl, M, hps.out, BB, hgw⟩
    · have hne : ((i : Int) != (j : Int)) = true := by simp; omega
      by_cases hlt : j < i
      · have hltz : (j : Int) < (i : Int) := by omega
        have hst := R.big hlt
        have hps := hp.swr (a := m - i) (b := m) (k := j) (by omega) (by omega) j (Nat.le_refl _)
        rw [hx] at hst hps
        replace hps := Lib.hid hps
        replace hst := Lib.hid hst
        have hz2 : IntKind.i64.wrap ((i : Int) - (j : Int)) = ((i - j : Nat) : Int) := (IntWalk.i64_in _ (by omega)).trans (by omega)
        generalize hij2 : i - j = i2 at *
        have hij3 : i2 + j < i + j := by omega
        replace hij2 := Lib.hid hij2
        go_upto_region 4 with fail
        go_wp2_with fail
        refine (swaprange_any g c l ρ x m j fv wr P hP M hgw hl hbig (by omega) (by omega)).mono ?_
        rintro e w5 ⟨rfl, M, B5, hgw⟩
        have BB := BB.trans B5
        generalize swr ρ x m j = ρ2 at *
        go_upto_region 2 with fail
        go_wp2_with fail
        go_roundg (i2 + j)
        case measure => omega
        case rel => exact ⟨i2, j, ρ2, rfl, rfl, rfl, hst.out, hps.out, M, BB, hgw⟩
      · have hltz : ¬ (j : Int) < (i : Int) := by omega
        have hst := R.small (by omega)
        rw [hx] at hst
        obtain ⟨y, hy⟩ : ∃ y, m + j - i = y := ⟨_, rfl⟩
        have hps := hp.swr (a := x) (b := y) (k := i) (by omega) (by omega) i (Nat.le_refl _)
        replace hps := Lib.hid hps
        rw [hy] at hst
        replace hst := Lib.hid hst
        have hz2 : IntKind.i64.wrap ((j : Int) - (i : Int)) = ((j - i : Nat) : Int) := (IntWalk.i64_in _ (by omega)).trans (by omega)
        have hz3 : IntKind.i64.wrap ((m : Int) + (j : Int)) = (m : Int) + (j : Int) := IntWalk.i64_in _ (by omega)
        have hz4 : IntKind.i64.wrap ((m : Int) + (j : Int) - (i : Int)) = (y : Int) := (IntWalk.i64_in _ (by omega)).trans (by omega)
        have hq1 : x + i ≤ y := by omega
        have hq2 : y + i ≤ l.length := by omega
        generalize hij2 : j - i = j2 at *
        have hij3 : i + j2 < i + j := by omega
        replace hij2 := Lib.hid hij2
        replace hx := Lib.hid hx
        replace hy := Lib.hid hy
        go_upto_region 6 with fail
        go_wp2_with fail
        refine (swaprange_any g c l ρ x y i fv wr P hP M hgw hl hbig hq1 hq2).mono ?_
        rintro e w5 ⟨rfl, M, B5, hgw⟩
        have BB := BB.trans B5
        generalize swr ρ x y i = ρ2 at *
        go_upto_region 2 with fail
        go_wp2_with fail
        go_roundg (i + j2)
        case measure => omega
        case rel => exact ⟨i, j2, ρ2, rfl, rfl, rfl, hst.out, hps.out, M, BB, hgw⟩

end Go.Proofs.YtilhnjecnhpmlaaDoor
namespace Go.Proofs.YtilhnjecnhpmlaaDoor
open Go.RowKit

/-- function fc compares data as cmp does -/
def CmpAt (fc : Nat) (cmp : Dat → Dat → Int) (G : Dat → Prop) : Prop := ∀ (x y : Dat) (vx vy : Value) (w : World) (P : Nat → Prop), (∀ b, P b → b < w.heap.size) → G x → G y → RDP w P x vx → RDP w P y vy →
  Calls Tryd.prog fc #[vx, vy] w fun e w' => e = .returned (.int .i64 (cmp x y)) ∧ Below w.heap.size w w'
/-- as the items compare -/
def qOf (cmp : Dat → Dat → Int) (l : List Dat) (s t : Nat) : Int := cmp (l.getD s nilD) (l.getD t nilD)

set_option maxRecDepth 100000 in
set_option maxHeartbeats 16000000 in
theorem insertion_any (fc : Nat) (cmp : Dat → Dat → Int) (G : Dat → Prop) (eg : ∀ args w, (callFunc fc args).run Tryd.prog w = .ok (.enter fc args) w) (hC : CmpAt fc cmp G) (g c : Nat) (l : List Dat) (σ : Nat → Nat) (a b : Nat) (w : World) (P : Nat → Prop) (hP : ∀ b, P b → b < g) (M : RowS w P g l σ) (hgw : g < w.heap.size) (_hl : l.length ≤ c) (hbig : l.length ≤ 10000) (hG : ∀ s, s < l.length → G (l.getD s nilD)) (hq : TOrd (qOf cmp l)) (hp : PermS l.length σ)
    (hb : b ≤ l.length) (hab : a ≤ b) (hid : ∀ k, a ≤ k → k < b → σ k = k) :
    Calls Tryd.prog 82 #[.slice (some ⟨g, 0, none⟩) l.length c, .int .i64 (a : Int), .int .i64 (b : Int), (.func (.func fc) #[] #[])] w fun e w' => e = .returned (.tuple #[]) ∧ (∃ τ, RowS w' P g l τ ∧ PermS l.length τ ∧ Srt (qOf cmp l) τ a b ∧ (∀ k, k < a ∨ b ≤ k → τ k = σ k) ∧ (∀ k, a ≤ k → k < b → a ≤ τ k ∧ τ k < b)) ∧ Far g w w' ∧ g < w'.heap.size := by
  have hq := Lib.hid hq
  have hp := Lib.hid hp
  have hza : IntKind.i64.wrap ((a : Int) + 1) = (a : Int) + 1 := IntWalk.i64_in _ (by omega)
  go_enter Tryd.func82, Tryd.ntmps82
  go_upto_region 1 with fail
  clear hza
  have BB := Far.refl g w
  have I0 : a < b → InsI (qOf cmp l) σ a b (a + 1) := fun h => InsI.start hid h
  go_loopg [8] (b - a) (fun gk s8 wx => ∃ (i : Nat) (τ : Nat → Nat), s8 = .int .i64 (i : Int) ∧ i + gk = b + 1 ∧ a + 1 ≤ i ∧ (i ≤ b ∨ i = a + 1) ∧ (a < b → InsI (qOf cmp l) τ a b i) ∧ PermS l.length τ ∧ (∀ k, k < a ∨ b ≤ k → τ k = σ k) ∧ RowS wx P g l τ ∧ Far g w wx ∧ g < wx.heap.size)
  case atStart => exact ⟨a + 1, σ, by simp, by omega, by omega, .inr rfl, I0, hp.out, fun _ _ => rfl, M, BB, hgw⟩
  case round =>
    clear M BB hgw I0 hid hp
    obtain ⟨i, τ, rfl, hgk, hai, hib, II, hp, ho, M, BB, hgw⟩ := hrel
    replace II := Lib.hid II
    replace ho := Lib.hid ho
    replace hp := Lib.hid hp
    by_cases hi : i < b
    · have hiz : (i : Int) < (b : Int) := by omega
      have J0 := InsJ.start (II.out (by omega)) hi (by omega)
      obtain ⟨wo, hwo⟩ : ∃ wo, wo = wr := ⟨_, rfl⟩
      subst hwo
      have hO := ho.out
      have hP0 := hp.out
      go_upto_region 4 with fail
      go_loopg [9] (i - a) (fun gk2 s9 wx => ∃ (j : Nat) (ρ : Nat → Nat), s9 = .int .i64 (j : Int) ∧ a + gk2 = j ∧ InsJ (qOf cmp l) ρ a b i j ∧ PermS l.length ρ ∧ (∀ k, k < a ∨ b ≤ k → ρ k = σ k) ∧ RowS wx P g l ρ ∧ Far g w wx ∧ g < wx.heap.size)
      case atStart => exact ⟨i, τ, rfl, by omega, J0, hP0, hO, M, BB, hgw⟩
      case round =>
        clear M BB hgw J0 hO hP0 ho hp II
        obtain ⟨j, ρ, rfl, hgk2, J, hp, ho, M, BB, hgw⟩ := hrel
        have hle := J.le
        replace J := Lib.hid J
        replace ho := Lib.hid ho
        replace hp := Lib.hid hp
        by_cases hja : a < j
        · obtain ⟨p, hjp⟩ : ∃ p, j = p + 1 := ⟨j - 1, by omega⟩
          have hzp : IntKind.i64.wrap ((j : Int) - 1) = (p : Int) := (IntWalk.i64_in _ (by omega)).trans (by omega)
          have hjz : (a : Int) < (j : Int) := by omega
          have hjl : j < l.length := by omega
          have hpl : p < l.length := by omega
          replace hjp := Lib.hid hjp
          obtain ⟨cx, lx, ox, sx, rx⟩ := M.at_ (i := p) hpl
          obtain ⟨cy, ly, oy, sy, ry⟩ := M.at_ (i := j) hjl
          match cx, lx, ox, cy, ly, oy with
          | [x0, x1, x2, x3, x4, x5, x6, x7, x8, x9, x10], _, ox, [y0, y1, y2, y3, y4, y5, y6, y7, y8, y9, y10], _, oy =>
          have rgx := sx.range
          have rgy := sy.range
          clear sx sy
          have gj := hG (ρ j) (hp.out.lt hjl)
          have gp := hG (ρ p) (hp.out.lt hpl)
          obtain ⟨dj, hdj⟩ : ∃ d, l.getD (ρ j) nilD = d := ⟨_, rfl⟩
          obtain ⟨dp, hdp⟩ : ∃ d, l.getD (ρ p) nilD = d := ⟨_, rfl⟩
          rw [hdj] at ry gj
          rw [hdp] at rx gp
          replace hdj := Lib.hid hdj
          replace hdp := Lib.hid hdp
          go_upto_region 4 with fail
          have hN : g ≤ wr.heap.size := Nat.le_of_lt hgw
          have Dw := (Below.refl wr.heap.size wr).drew
          have M := M.keep hP hgw Dw
          have rx := rx.keep (fun b hb => by have := hP b hb; omega) Dw
          have ry := ry.keep (fun b hb => by have := hP b hb; omega) Dw
          have rgx := range_nx rgx Dw hgw
          have rgy := range_nx rgy Dw hgw
          have BB := BB.nx Dw (by omega)
          have hN := Nat.le_trans hN Dw.size
          have hgw := Nat.lt_of_lt_of_le hgw Dw.size
          clear Dw
          refine AnyW.regionQ (fun _ => false) 17 (fun w' => w'.rangeAt g (j * 11) [y0, y1, y2, y3, y4, y5, y6, y7, y8, y9, y10] ∧ w'.rangeAt g (p * 11) [x0, x1, x2, x3, x4, x5, x6, x7, x8, x9, x10]) rfl (by kernel_rfl) (by kernel_rfl) (by (repeat (with_reducible (first | refine quiet_then ?_ | refine quiet_block ?_))); exact quiet_body) ⟨rgy, rgx⟩ (fun Q' hQK hq' hns hHeld => ?_)
          generalize wr.drew = w9 at *
          refine AnyW.nextT (i := 0) (v := ?_) hq' hns (.inr hHeld) rfl rfl (by kernel_rfl) (Or.inl ⟨by rfl, ?_⟩) ?_
          rotate_left
          · intro w' _; go_simp <;> with_reducible rfl
          try simp only [List.setIfInBounds_toArray, List.set_cons_zero, List.set_cons_succ]
          refine AnyW.nextT (i := 1) (v := ?_) hq' hns (.inr hHeld) rfl rfl (by kernel_rfl) (Or.inl ⟨by rfl, ?_⟩) ?_
          rotate_left
          · intro w' _; go_simp <;> with_reducible rfl
          try simp only [List.setIfInBounds_toArray, List.set_cons_zero, List.set_cons_succ]
          refine AnyW.nextT (i := 2) (v := ?_) hq' hns (.inr hHeld) rfl rfl (by kernel_rfl) (Or.inl ⟨by rfl, ?_⟩) ?_
          rotate_left
          · intro w' _; go_simp <;> with_reducible rfl
          try simp only [List.setIfInBounds_toArray, List.set_cons_zero, List.set_cons_succ]
          refine AnyW.nextT (i := 3) (v := ?_) hq' hns (.inr hHeld) rfl rfl (by kernel_rfl) (Or.inl ⟨by rfl, ?_⟩) ?_
          rotate_left
          · intro w' _; go_simp <;> with_reducible rfl
          try simp only [List.setIfInBounds_toArray, List.set_cons_zero, List.set_cons_succ]
          refine AnyW.nextT (i := 4) (v := ?_) hq' hns (.inr hHeld) rfl rfl (by kernel_rfl) (Or.inl ⟨by rfl, ?_⟩) ?_
          rotate_left
          · intro w' _; go_simp <;> with_reducible rfl
          try simp only [List.setIfInBounds_toArray, List.set_cons_zero, List.set_cons_succ]
          refine AnyW.nextT (i := 5) (v := ?_) hq' hns (.inr hHeld) rfl rfl (by kernel_rfl) (Or.inl ⟨by rfl, ?_⟩) ?_
          rotate_left
          · intro w' _; go_simp <;> with_reducible rfl
          try simp only [List.setIfInBounds_toArray, List.set_cons_zero, List.set_cons_succ]
          refine AnyW.nextT (i := 6) (v := ?_) hq' hns (.inr hHeld) rfl rfl (by kernel_rfl) (Or.inl ⟨by rfl, ?_⟩) ?_
          rotate_left
          · intro w' _; go_simp <;> with_reducible rfl
          try simp only [List.setIfInBounds_toArray, List.set_cons_zero, List.set_cons_succ]
          refine AnyW.nextT (i := 7) (v := ?_) hq' hns (.inr hHeld) rfl rfl (by kernel_rfl) (Or.inl ⟨by rfl, ?_⟩) ?_
          rotate_left
          · intro w' _; go_simp <;> with_reducible rfl
          try simp only [List.setIfInBounds_toArray, List.set_cons_zero, List.set_cons_succ]
          refine AnyW.next (i := 8) (v := .agg [y0, y1, y2, y3, y4, y5, y6, y7, y8, y9, y10].toArray) hq' hns hHeld rfl rfl (by kernel_rfl) (yieldsIf_load_mid (by rfl) 31 (.tmp 25) rfl g (j * 11) rfl [y0, y1, y2, y3, y4, y5, y6, y7, y8, y9, y10] _ (fun w' h => h.1) Tryd.underlying31 rfl (infoD.trans (by rfl))) ?_
          try simp only [List.setIfInBounds_toArray, List.set_cons_zero, List.set_cons_succ]
          refine AnyW.nextT (i := 9) (v := ?_) hq' hns (.inr hHeld) rfl rfl (by kernel_rfl) (Or.inl ⟨by rfl, ?_⟩) ?_
          rotate_left
          · intro w' _; go_simp <;> with_reducible rfl
          try simp only [List.setIfInBounds_toArray, List.set_cons_zero, List.set_cons_succ]
          refine AnyW.nextT (i := 10) (v := ?_) hq' hns (.inr hHeld) rfl rfl (by kernel_rfl) (Or.inl ⟨by rfl, ?_⟩) ?_
          rotate_left
          · intro w' _; go_simp <;> with_reducible rfl
          try simp only [List.setIfInBounds_toArray, List.set_cons_zero, List.set_cons_succ]
          refine AnyW.nextT (i := 11) (v := ?_) hq' hns (.inr hHeld) rfl rfl (by kernel_rfl) (Or.inl ⟨by rfl, ?_⟩) ?_
          rotate_left
          · intro w' _; go_simp <;> with_reducible rfl
          try simp only [List.setIfInBounds_toArray, List.set_cons_zero, List.set_cons_succ]
          refine AnyW.nextT (i := 12) (v := ?_) hq' hns (.inr hHeld) rfl rfl (by kernel_rfl) (Or.inl ⟨by rfl, ?_⟩) ?_
          rotate_left
          · intro w' _; go_simp <;> with_reducible rfl
          try simp only [List.setIfInBounds_toArray, List.set_cons_zero, List.set_cons_succ]
          refine AnyW.next (i := 13) (v := .agg [x0, x1, x2, x3, x4, x5, x6, x7, x8, x9, x10].toArray) hq' hns hHeld rfl rfl (by kernel_rfl) (yieldsIf_load_mid (by rfl) 31 (.tmp 30) rfl g (p * 11) rfl [x0, x1, x2, x3, x4, x5, x6, x7, x8, x9, x10] _ (fun w' h => h.2) Tryd.underlying31 rfl (infoD.trans (by rfl))) ?_
          try simp only [List.setIfInBounds_toArray, List.set_cons_zero, List.set_cons_succ]
          refine AnyW.one 14 (by kernel_rfl) rfl (fun K' hK => ?_)
          go_simp
          refine (hC _ _ _ _ w9 P (fun b hb => by have := hP b hb; omega) gj gp ry rx).mono ?_
          rintro e w5 ⟨rfl, B5⟩
          go_wp2_with fail
          have M := M.keep hP hgw B5
          have rgx := range_nx rgx B5 hgw
          have rgy := range_nx rgy B5 hgw
          have rx := rx.keep (fun b hb => by have := hP b hb; omega) B5
          have ry := ry.keep (fun b hb => by have := hP b hb; omega) B5
          have BB := BB.nx B5 (by omega)
          have hgw := Nat.lt_of_lt_of_le hgw B5.size
          refine hK.out _ _ (.inr ⟨rgy, rgx⟩) (fun hG' => ?_)
          have hHeld := hG'.resolve_left (notGone.spec (by rfl))
          clear hK K' hG' rgx rgy B5
          try simp only [List.setIfInBounds_toArray, List.set_cons_zero, List.set_cons_succ]
          have hJc : qOf (cmp) l i (ρ p) = cmp dj dp := by unfold qOf; rw [← hdj.out, ← hdp.out, J.out.at_]
          have hpj : j - 1 = p := by have := hjp.out; omega
          obtain ⟨z, hz⟩ : ∃ z, cmp dj dp = z := ⟨_, rfl⟩
          have hJs : z < 0 → InsJ (qOf cmp l) (swp ρ j p) a b i p := fun h => by have := J.out.step hq.out hja (by rw [hpj, hJc, hz]; exact h); rwa [hpj] at this
          have hJe : ¬ z < 0 → InsI (qOf cmp l) ρ a b (i + 1) := fun h => J.out.end_ hq.out (.inr (by rw [hpj, hJc, hz]; exact h))
          replace hJs := Lib.hid hJs
          replace hJe := Lib.hid hJe
          rw [hz]
          clear hJc hz hpj
          refine AnyW.nextT (i := 15) (v := ?_) hq' hns (.inr hHeld) rfl rfl (by kernel_rfl) (Or.inl ⟨by rfl, ?_⟩) ?_
          rotate_left
          · intro w' _; go_simp <;> with_reducible rfl
          try simp only [List.setIfInBounds_toArray, List.set_cons_zero, List.set_cons_succ]
          refine AnyW.nextT (i := 16) (v := ?_) hq' hns (.inr hHeld) rfl rfl (by kernel_rfl) (Or.inl ⟨by rfl, ?_⟩) ?_
          rotate_left
          · intro w' _; go_simp <;> with_reducible rfl
          try simp only [List.setIfInBounds_toArray, List.set_cons_zero, List.set_cons_succ]
          refine AnyW.done (by kernel_rfl) (hQK.out _ _ ?_)
          clear hQK hq' hns hHeld
          by_cases hz0 : z < 0
          · have JN := hJs.out hz0
            replace JN := Lib.hid JN
            clear hJs hJe J rx ry
            go_upto_region 6 with fail
            have hN : g ≤ w5.heap.size := Nat.le_of_lt hgw
            obtain ⟨cx, lx, ox, sx, rx⟩ := M.at_ (i := p) (by omega)
            obtain ⟨cy, ly, oy, sy, ry⟩ := M.at_ (i := j) (by omega)
            match cx, lx, ox, cy, ly, oy with
            | [x0, x1, x2, x3, x4, x5, x6, x7, x8, x9, x10], _, ox, [y0, y1, y2, y3, y4, y5, y6, y7, y8, y9, y10], _, oy =>
            have hq0 := hq
            clear hq
            have rgx := sx.range
            have rgy := sy.range
            have thi := sy.there rfl
            have thj := sx.there rfl
            have Dw := (Below.refl w5.heap.size w5).drew
            have M := M.keep hP hgw Dw
            have rx := rx.keep (fun b hb => by have := hP b hb; omega) Dw
            have ry := ry.keep (fun b hb => by have := hP b hb; omega) Dw
            have rgx := range_nx rgx Dw hgw
            have rgy := range_nx rgy Dw hgw
            have thi := there_nx thi Dw hgw
            have thj := there_nx thj Dw hgw
            have BB := BB.nx Dw (by omega)
            have hN := Nat.le_trans hN Dw.size
            have hgw : g < w5.drew.heap.size := Nat.lt_of_lt_of_le hgw Dw.size
            clear Dw sx sy
            refine AnyW.regionQ (fun j => j == 15 || j == 17) 18 (fun w' => w'.rangeAt g (p * 11) [x0, x1, x2, x3, x4, x5, x6, x7, x8, x9, x10] ∧ w'.rangeAt g (j * 11) [y0, y1, y2, y3, y4, y5, y6, y7, y8, y9, y10]) rfl (by kernel_rfl) (by kernel_rfl) (by (repeat (with_reducible (first | refine quiet_then ?_ | refine quiet_block ?_))); exact quiet_body) ⟨rgx, rgy⟩ (fun Q' hQK hq hns hHeld => ?_)
            generalize w5.drew = w4 at *
            clear rgx rgy
            refine AnyW.nextT (i := 0) (v := ?_) hq hns (.inr hHeld) rfl rfl (by kernel_rfl) (Or.inl ⟨by rfl, ?_⟩) ?_
            rotate_left
            · intro w' _; go_simp <;> with_reducible rfl
            try simp only [List.setIfInBounds_toArray, List.set_cons_zero, List.set_cons_succ]
            refine AnyW.nextT (i := 1) (v := ?_) hq hns (.inr hHeld) rfl rfl (by kernel_rfl) (Or.inl ⟨by rfl, ?_⟩) ?_
            rotate_left
            · intro w' _; go_simp <;> with_reducible rfl
            try simp only [List.setIfInBounds_toArray, List.set_cons_zero, List.set_cons_succ]
            refine AnyW.nextT (i := 2) (v := ?_) hq hns (.inr hHeld) rfl rfl (by kernel_rfl) (Or.inl ⟨by rfl, ?_⟩) ?_
            rotate_left
            · intro w' _; go_simp <;> with_reducible rfl
            try simp only [List.setIfInBounds_toArray, List.set_cons_zero, List.set_cons_succ]
            refine AnyW.nextT (i := 3) (v := ?_) hq hns (.inr hHeld) rfl rfl (by kernel_rfl) (Or.inl ⟨by rfl, ?_⟩) ?_
            rotate_left
            · intro w' _; go_simp <;> with_reducible rfl
            try simp only [List.setIfInBounds_toArray, List.set_cons_zero, List.set_cons_succ]
            refine AnyW.nextT (i := 4) (v := ?_) hq hns (.inr hHeld) rfl rfl (by kernel_rfl) (Or.inl ⟨by rfl, ?_⟩) ?_
            rotate_left
            · intro w' _; go_simp <;> with_reducible rfl
            try simp only [List.setIfInBounds_toArray, List.set_cons_zero, List.set_cons_succ]
            refine AnyW.nextT (i := 5) (v := ?_) hq hns (.inr hHeld) rfl rfl (by kernel_rfl) (Or.inl ⟨by rfl, ?_⟩) ?_
            rotate_left
            · intro w' _; go_simp <;> with_reducible rfl
            try simp only [List.setIfInBounds_toArray, List.set_cons_zero, List.set_cons_succ]
            refine AnyW.nextT (i := 6) (v := ?_) hq hns (.inr hHeld) rfl rfl (by kernel_rfl) (Or.inl ⟨by rfl, ?_⟩) ?_
            rotate_left
            · intro w' _; go_simp <;> with_reducible rfl
            try simp only [List.setIfInBounds_toArray, List.set_cons_zero, List.set_cons_succ]
            refine AnyW.nextT (i := 7) (v := ?_) hq hns (.inr hHeld) rfl rfl (by kernel_rfl) (Or.inl ⟨by rfl, ?_⟩) ?_
            rotate_left
            · intro w' _; go_simp <;> with_reducible rfl
            try simp only [List.setIfInBounds_toArray, List.set_cons_zero, List.set_cons_succ]
            refine AnyW.nextT (i := 8) (v := ?_) hq hns (.inr hHeld) rfl rfl (by kernel_rfl) (Or.inl ⟨by rfl, ?_⟩) ?_
            rotate_left
            · intro w' _; go_simp <;> with_reducible rfl
            try simp only [List.setIfInBounds_toArray, List.set_cons_zero, List.set_cons_succ]
            refine AnyW.next (i := 9) (v := .agg [x0, x1, x2, x3, x4, x5, x6, x7, x8, x9, x10].toArray) hq hns hHeld rfl rfl (by kernel_rfl) (yieldsIf_load_mid (by rfl) 31 (.tmp 45) rfl g (p * 11) rfl [x0, x1, x2, x3, x4, x5, x6, x7, x8, x9, x10] _ (fun w' h => h.1) Tryd.underlying31 rfl (infoD.trans (by rfl))) ?_
            try simp only [List.setIfInBounds_toArray, List.set_cons_zero, List.set_cons_succ]
            refine AnyW.nextT (i := 10) (v := ?_) hq hns (.inr hHeld) rfl rfl (by kernel_rfl) (Or.inl ⟨by rfl, ?_⟩) ?_
            rotate_left
            · intro w' _; go_simp <;> with_reducible rfl
            try simp only [List.setIfInBounds_toArray, List.set_cons_zero, List.set_cons_succ]
            refine AnyW.nextT (i := 11) (v := ?_) hq hns (.inr hHeld) rfl rfl (by kernel_rfl) (Or.inl ⟨by rfl, ?_⟩) ?_
            rotate_left
            · intro w' _; go_simp <;> with_reducible rfl
            try simp only [List.setIfInBounds_toArray, List.set_cons_zero, List.set_cons_succ]
            refine AnyW.nextT (i := 12) (v := ?_) hq hns (.inr hHeld) rfl rfl (by kernel_rfl) (Or.inl ⟨by rfl, ?_⟩) ?_
            rotate_left
            · intro w' _; go_simp <;> with_reducible rfl
            try simp only [List.setIfInBounds_toArray, List.set_cons_zero, List.set_cons_succ]
            refine AnyW.next (i := 13) (v := .agg [y0, y1, y2, y3, y4, y5, y6, y7, y8, y9, y10].toArray) hq hns hHeld rfl rfl (by kernel_rfl) (yieldsIf_load_mid (by rfl) 31 (.tmp 49) rfl g (j * 11) rfl [y0, y1, y2, y3, y4, y5, y6, y7, y8, y9, y10] _ (fun w' h => h.2) Tryd.underlying31 rfl (infoD.trans (by rfl))) ?_
            try simp only [List.setIfInBounds_toArray, List.set_cons_zero, List.set_cons_succ]
            refine AnyW.nextT (i := 14) (v := ?_) hq hns (.inr hHeld) rfl rfl (by kernel_rfl) (Or.inl ⟨by rfl, ?_⟩) ?_
            rotate_left
            · intro w' _; go_simp <;> with_reducible rfl
            try simp only [List.setIfInBounds_toArray, List.set_cons_zero, List.set_cons_succ]
            refine AnyW.one 15 (by kernel_rfl) rfl (fun K' hK => ?_)
            refine step_stDo rfl rfl (.tmp 51) (.tmp 46) rfl g (j * 11) rfl [x0, x1, x2, x3, x4, x5, x6, x7, x8, x9, x10] rfl rfl thi ox ?_
            refine hK.out _ _ (.inl ⟨15, rfl, rfl⟩) (fun _ => ?_)
            clear hK K'
            try simp only [List.setIfInBounds_toArray, List.set_cons_zero, List.set_cons_succ]
            refine AnyW.nextT (i := 16) (v := ?_) hq hns (.inl ⟨15, rfl, rfl⟩) rfl rfl (by kernel_rfl) (Or.inl ⟨by rfl, ?_⟩) ?_
            rotate_left
            · intro w' _; go_simp <;> with_reducible rfl
            try simp only [List.setIfInBounds_toArray, List.set_cons_zero, List.set_cons_succ]
            refine AnyW.one 17 (by kernel_rfl) rfl (fun K' hK => ?_)
            refine step_stDo rfl rfl (.tmp 52) (.tmp 50) rfl g (p * 11) rfl [y0, y1, y2, y3, y4, y5, y6, y7, y8, y9, y10] rfl rfl (there_sc thj _ _) oy ?_
            refine hK.out _ _ (.inl ⟨17, rfl, rfl⟩) (fun _ => ?_)
            clear hK K'
            try simp only [List.setIfInBounds_toArray, List.set_cons_zero, List.set_cons_succ]
            refine AnyW.done (by kernel_rfl) (hQK.out _ _ ?_)
            clear hQK hq hns hHeld thi thj
            have M := M.swap hP hgw (i := j) (j := p) (by omega) (by omega) rfl rfl rx ry
            have BB := (BB.sc (j * 11) [x0, x1, x2, x3, x4, x5, x6, x7, x8, x9, x10]).sc (p * 11) [y0, y1, y2, y3, y4, y5, y6, y7, y8, y9, y10]
            have hgw : g < ((w4.setCells g (j * 11) [x0, x1, x2, x3, x4, x5, x6, x7, x8, x9, x10]).setCells g (p * 11) [y0, y1, y2, y3, y4, y5, y6, y7, y8, y9, y10]).heap.size := by rw [size_sc, size_sc]; exact hgw
            clear rx ry
            have hq := hq0
            clear hq0
            generalize (w4.setCells g (j * 11) [x0, x1, x2, x3, x4, x5, x6, x7, x8, x9, x10]).setCells g (p * 11) [y0, y1, y2, y3, y4, y5, y6, y7, y8, y9, y10] = w6 at *
            have hps := hp.out.swp hjl hpl
            have hos : ∀ k, k < a ∨ b ≤ k → swp ρ j p k = σ k := fun k hk => by rw [swp_o ρ (by omega) (by have := hjp.out; omega)]; exact ho.out k hk
            replace hps := Lib.hid hps
            replace hos := Lib.hid hos
            generalize swp ρ j p = ρ2 at *
            go_upto_region 4 with fail
            go_roundg (p - a)
            case measure => have := hjp.out; omega
            case rel => exact ⟨p, ρ2, rfl, by have := hjp.out; omega, JN.out, hps.out, hos.out, M, BB, hgw⟩
          · have IN := hJe.out hz0
            replace IN := Lib.hid IN
            clear hJs hJe J rx ry
            go_upto_region 1 with fail
            go_roundg (b - i)
            case measure => omega
            case rel => exact ⟨i + 1, ρ, by simp, by omega, by omega, .inl (by omega), fun _ => IN.out, hp.out, ho.out, M, BB, hgw⟩
        · have hjz : ¬ (a : Int) < (j : Int) := by omega
          have IN := J.out.end_ hq.out (.inl (by omega))
          replace IN := Lib.hid IN
          go_upto_region 4 with fail
          go_quiet (fail)
          go_upto_region 1 with fail
          go_roundg (b - i)
          case measure => omega
          case rel => exact ⟨i + 1, ρ, by simp, by omega, by omega, .inl (by omega), fun _ => IN.out, hp.out, ho.out, M.keep hP hgw (bdN (Below.refl _ _) _), BB.dN _, hgw⟩
    · have hiz : ¬ (i : Int) < (b : Int) := by omega
      have hfin : Srt (qOf cmp l) τ a b ∧ (∀ k, a ≤ k → k < b → a ≤ τ k ∧ τ k < b) := by
        by_cases hab2 : a < b
        · have II := II.out hab2
          obtain rfl : i = b := by omega
          exact ⟨II.srt, II.own⟩
        · exact ⟨fun x y h1 h2 h3 => by omega, fun k h1 h2 => by omega⟩
      replace hfin := Lib.hid hfin
      go_wp2_with fail
      go_end0
      exact ⟨rfl, ⟨τ, M, hp.out, hfin.out.1, ho.out, hfin.out.2⟩, BB, hgw⟩

end Go.Proofs.YtilhnjecnhpmlaaDoor
