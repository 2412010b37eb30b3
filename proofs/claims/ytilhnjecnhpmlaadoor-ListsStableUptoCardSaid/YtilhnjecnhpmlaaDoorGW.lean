/- Merged texts: SrtQ, SrtE, SrtF, SrtG, SrtH, SrtI. -/
import Derived.Test.YtilhnjecnhpmlaaDoorGU
import Derived.Test.YtilhnjecnhpmlaaDoorGV
import Derived.Test.YtilhnjecnhpmlaaDoorGN
import Derived.Test.YtilhnjecnhpmlaaDoorGR
namespace Go.Proofs.YtilhnjecnhpmlaaDoor

section
variable {q : Nat → Nat → Int} {σ τ : Nat → Nat} {n a b m s t : Nat}
/-- [a, e) is sorted, and its items are those that came there -/
def Blk (q : Nat → Nat → Int) (σ : Nat → Nat) (a e : Nat) : Prop := Srt q σ a e ∧ ∀ i, a ≤ i → i < e → a ≤ σ i ∧ σ i < e
theorem Blk.same (h : Blk q σ a b) (ho : ∀ k, a ≤ k → k < b → τ k = σ k) : Blk q τ a b :=
  ⟨fun i j h1 h2 h3 => by rw [ho i h1 (by omega), ho j (by omega) h3]; exact h.1 i j h1 h2 h3, fun i h1 h2 => by rw [ho i h1 h2]; exact h.2 i h1 h2⟩
theorem Blk.symP (h1 : Blk q σ a m) (h2 : Blk q σ m b) : SymP q σ a m b :=
  ⟨h1.1, h2.1, fun i j h3 h4 h5 h6 => by have := h1.2 i h3 h4; have := h2.2 j h5 h6; omega⟩
theorem Blk.merged (h1 : Blk q σ a m) (h2 : Blk q σ m b) (hm : a ≤ m ∧ m ≤ b) (h : SymQ q σ τ a b) : Blk q τ a b :=
  ⟨h.srt, fun i h3 h4 => by
    obtain ⟨j, h5, h6, h7⟩ := h.from_ i h3 h4
    rw [h7]
    by_cases c : j < m
    · have := h1.2 j h5 c; omega
    · have := h2.2 j (by omega) h6; omega⟩
/-- all blocks of s items -/
def AllB (q : Nat → Nat → Int) (σ : Nat → Nat) (s n : Nat) : Prop := ∀ u x, x = u * s → x < n → Blk q σ x (min (x + s) n)
theorem AllB.whole (h : AllB q σ s n) (hs : n ≤ s) : Srt q σ 0 n := by
  by_cases h0 : 0 < n
  · have := (h 0 0 (by simp) h0).1
    rwa [Nat.zero_add, Nat.min_eq_right hs] at this
  · intro i j _ h2 h3; omega
/-- the first t blocks of s items are made; the others lie as they came -/
structure MakeB (q : Nat → Nat → Int) (σ : Nat → Nat) (s n t : Nat) : Prop where
  done : ∀ u x, u < t → x = u * s → Blk q σ x (x + s)
  rest : ∀ k, t * s ≤ k → k < n → σ k = k
  le : t * s ≤ n
theorem MakeB.start (s n : Nat) : MakeB q id s n 0 := ⟨fun u x h => by omega, fun _ _ _ => rfl, by simp⟩
theorem MakeB.step (h : MakeB q σ s n t) (hn : t * s + s ≤ n) (h1 : Srt q τ (t * s) (t * s + s)) (h2 : ∀ k, k < t * s ∨ t * s + s ≤ k → τ k = σ k) (h3 : ∀ k, t * s ≤ k → k < t * s + s → t * s ≤ τ k ∧ τ k < t * s + s) : MakeB q τ s n (t + 1) := by
  refine ⟨fun u x hu hx => ?_, fun k hk hkn => ?_, by rw [Nat.add_mul]; omega⟩
  · by_cases e : u = t
    · subst e; subst hx; exact ⟨h1, h3⟩
    · have hle := Nat.mul_le_mul_right s (show u + 1 ≤ t by omega)
      rw [Nat.add_mul] at hle
      exact (h.done u x (by omega) hx).same fun k h4 h5 => h2 k (by omega)
  · rw [Nat.add_mul] at hk
    rw [h2 k (by omega)]; exact h.rest k (by omega) hkn
theorem MakeB.end_ (h : MakeB q σ s n t) (hn : n < t * s + s) (h1 : Srt q τ (t * s) n) (h2 : ∀ k, k < t * s ∨ n ≤ k → τ k = σ k) (h3 : ∀ k, t * s ≤ k → k < n → t * s ≤ τ k ∧ τ k < n) : AllB q τ s n := by
  intro u x hx hxn
  by_cases e : u < t
  · have hle := Nat.mul_le_mul_right s (show u + 1 ≤ t by omega)
    rw [Nat.add_mul] at hle
    have hl := h.le
    rw [Nat.min_eq_left (by omega)]
    exact (h.done u x e hx).same fun k h4 h5 => h2 k (by omega)
  · have e2 : u = t := by
      rcases Nat.lt_or_ge t u with h4 | h4
      · have hle := Nat.mul_le_mul_right s (show t + 1 ≤ u from h4)
        rw [Nat.add_mul] at hle
        omega
      · omega
    subst e2
    subst hx
    rw [Nat.min_eq_right (by omega)]
    exact ⟨h1, h3⟩
/-- the first t pairs of blocks of s items are merged -/
structure MidB (q : Nat → Nat → Int) (σ : Nat → Nat) (s n t : Nat) : Prop where
  done : ∀ u x, u < t → x = u * (2 * s) → Blk q σ x (x + 2 * s)
  rest : ∀ u x, x = u * s → t * (2 * s) ≤ x → x < n → Blk q σ x (min (x + s) n)
  le : t * (2 * s) ≤ n
theorem MidB.start (h : AllB q σ s n) : MidB q σ s n 0 := ⟨fun u x h => by omega, fun u x h1 _ h2 => h u x h1 h2, by simp⟩
theorem MidB.pair (h : MidB q σ s n t) (hs : 0 < s) (hn : t * (2 * s) + s < n) : Blk q σ (t * (2 * s)) (t * (2 * s) + s) ∧ Blk q σ (t * (2 * s) + s) (min (t * (2 * s) + 2 * s) n) := by
  have e1 : t * (2 * s) = (2 * t) * s := by rw [Nat.mul_comm 2 t, Nat.mul_assoc]
  have e2 : t * (2 * s) + s = (2 * t + 1) * s := by rw [e1, Nat.add_mul, Nat.one_mul]
  have h1 := h.rest (2 * t) _ e1 (Nat.le_refl _) (by omega)
  rw [Nat.min_eq_left (by omega)] at h1
  have h2 := h.rest (2 * t + 1) _ e2 (by omega) hn
  rw [show t * (2 * s) + s + s = t * (2 * s) + 2 * s by omega] at h2
  exact ⟨h1, h2⟩
theorem MidB.step (h : MidB q σ s n t) (hs : 0 < s) (hn : t * (2 * s) + 2 * s ≤ n) (hQ : SymQ q σ τ (t * (2 * s)) (t * (2 * s) + 2 * s)) : MidB q τ s n (t + 1) := by
  obtain ⟨p1, p2⟩ := h.pair hs (by omega)
  rw [Nat.min_eq_left hn] at p2
  refine ⟨fun u x hu hx => ?_, fun u x hx h1 h2 => ?_, by rw [Nat.add_mul]; omega⟩
  · by_cases e : u = t
    · subst e; subst hx; exact p1.merged p2 (by omega) hQ
    · have hle := Nat.mul_le_mul_right (2 * s) (show u + 1 ≤ t by omega)
      rw [Nat.add_mul] at hle
      exact (h.done u x (by omega) hx).same fun k h4 h5 => hQ.out k (by omega)
  · rw [Nat.add_mul] at h1
    exact (h.rest u x hx (by omega) h2).same fun k h4 h5 => hQ.out k (by omega)
theorem MidB.end_ (h : MidB q σ s n t) (hn : n < t * (2 * s) + 2 * s) (hB : Blk q τ (t * (2 * s)) n) (ho : ∀ k, k < t * (2 * s) ∨ n ≤ k → τ k = σ k) : AllB q τ (2 * s) n := by
  intro u x hx hxn
  by_cases e : u < t
  · have hle := Nat.mul_le_mul_right (2 * s) (show u + 1 ≤ t by omega)
    rw [Nat.add_mul] at hle
    have hl := h.le
    rw [Nat.min_eq_left (by omega)]
    exact (h.done u x e hx).same fun k h4 h5 => ho k (by omega)
  · have e2 : u = t := by
      rcases Nat.lt_or_ge t u with h4 | h4
      · have hle := Nat.mul_le_mul_right (2 * s) (show t + 1 ≤ u from h4)
        rw [Nat.add_mul] at hle
        omega
      · omega
    subst e2
    subst hx
    rw [Nat.min_eq_right (by omega)]
    exact hB
/-- the last part, if there is but one block left -/
theorem MidB.last (h : MidB q σ s n t) (hm : n ≤ t * (2 * s) + s) : Blk q σ (t * (2 * s)) n := by
  by_cases c : t * (2 * s) < n
  · have e1 : t * (2 * s) = (2 * t) * s := by rw [Nat.mul_comm 2 t, Nat.mul_assoc]
    have h1 := h.rest (2 * t) _ e1 (Nat.le_refl _) c
    rwa [Nat.min_eq_right hm] at h1
  · exact ⟨fun i j h1 h2 h3 => by omega, fun i h1 h2 => by omega⟩
end
end Go.Proofs.YtilhnjecnhpmlaaDoor
namespace Go.Proofs.YtilhnjecnhpmlaaDoor
open Go.RowKit

section
variable {q : Nat → Nat → Int} {σ τ : Nat → Nat} {n s t x y : Nat}
theorem MakeB.stepx (h : MakeB q σ s n t) (hx : Hid (x = t * s)) (hy : y = x + s) (hn : y ≤ n) (h1 : Srt q τ x y) (h2 : ∀ k, k < x ∨ y ≤ k → τ k = σ k) (h3 : ∀ k, x ≤ k → k < y → x ≤ τ k ∧ τ k < y) : MakeB q τ s n (t + 1) ∧ Hid (y = (t + 1) * s) := by
  have hx := hx.out
  subst hy; subst hx
  exact ⟨h.step hn h1 h2 h3, Lib.hid (by rw [Nat.add_mul]; omega)⟩
theorem MakeB.endx (h : MakeB q σ s n t) (hx : Hid (x = t * s)) (hy : y = x + s) (hn : n < y) (h1 : Srt q τ x n) (h2 : ∀ k, k < x ∨ n ≤ k → τ k = σ k) (h3 : ∀ k, x ≤ k → k < n → x ≤ τ k ∧ τ k < n) : AllB q τ s n := by
  have hx := hx.out
  subst hy; subst hx
  exact h.end_ hn h1 h2 h3
theorem MakeB.restx (h : MakeB q σ s n t) (hx : Hid (x = t * s)) : ∀ k, x ≤ k → k < n → σ k = k := by
  have hx := hx.out
  subst hx; exact h.rest
theorem MidB.pairx (h : MidB q σ s n t) (hx : Hid (x = t * (2 * s))) (hy : y = x + 2 * s) (hs : 0 < s) (hn : y ≤ n) : SymP q σ x (x + s) y := by
  have hx := hx.out
  subst hx
  obtain ⟨h1, h2⟩ := h.pair hs (by omega)
  rw [Nat.min_eq_left (by omega), ← hy] at h2
  exact h1.symP h2
theorem MidB.stepx (h : MidB q σ s n t) (hx : Hid (x = t * (2 * s))) (hy : y = x + 2 * s) (hs : 0 < s) (hn : y ≤ n) (hQ : SymQ q σ τ x y) : MidB q τ s n (t + 1) ∧ Hid (y = (t + 1) * (2 * s)) := by
  have hx := hx.out
  subst hy; subst hx
  exact ⟨h.step hs hn hQ, Lib.hid (by rw [Nat.add_mul]; omega)⟩
theorem MidB.lastP (h : MidB q σ s n t) (hx : Hid (x = t * (2 * s))) (hs : 0 < s) (hn : n < x + 2 * s) (hm : x + s < n) : SymP q σ x (x + s) n := by
  have hx := hx.out
  subst hx
  obtain ⟨h1, h2⟩ := h.pair hs hm
  rw [Nat.min_eq_right (by omega)] at h2
  exact h1.symP h2
theorem MidB.endm (h : MidB q σ s n t) (hx : Hid (x = t * (2 * s))) (hs : 0 < s) (hn : n < x + 2 * s) (hm : x + s < n) (hQ : SymQ q σ τ x n) : AllB q τ (2 * s) n := by
  have hx := hx.out
  subst hx
  obtain ⟨h1, h2⟩ := h.pair hs hm
  rw [Nat.min_eq_right (by omega)] at h2
  exact h.end_ hn (h1.merged h2 (by omega) hQ) fun k hk => hQ.out k hk
theorem MidB.end1 (h : MidB q σ s n t) (hx : Hid (x = t * (2 * s))) (hn : n < x + 2 * s) (hm : n ≤ x + s) : AllB q σ (2 * s) n := by
  have hx := hx.out
  subst hx
  exact h.end_ hn (h.last hm) fun _ _ => rfl
end

set_option maxRecDepth 100000 in
set_option maxHeartbeats 32000000 in
theorem stable_any (fc : Nat) (cmp : Dat → Dat → Int) (G : Dat → Prop) (eg : ∀ args w, (callFunc fc args).run Tryd.prog w = .ok (.enter fc args) w) (hC : CmpAt fc cmp G) (g c : Nat) (l : List Dat) (hl : l.length ≤ c) (hbig : l.length ≤ 10000) (hG : ∀ s, s < l.length → G (l.getD s nilD)) (hq : TOrd (qOf cmp l)) (P : Nat → Prop) (hP : ∀ b, P b → b < g) (w : World) (M : RowS w P g l id) (hgw : g < w.heap.size) :
    Calls Tryd.prog 61 #[.slice (some ⟨g, 0, none⟩) l.length c, .int .i64 (l.length : Int), .func (.func fc) #[] #[]] w fun e w' => e = .returned (.tuple #[]) ∧ (∃ τ, RowS w' P g l τ ∧ PermS l.length τ ∧ Srt (qOf cmp l) τ 0 l.length) ∧ Far g w w' ∧ g < w'.heap.size := by
  have hq := Lib.hid hq
  have BB := Far.refl g w
  obtain ⟨n, hn⟩ : ∃ n, l.length = n := ⟨_, rfl⟩
  have hbn : n ≤ 10000 := by omega
  have hnc : n ≤ c := by omega
  have B0 : MakeB (qOf cmp l) id 20 n 0 := MakeB.start 20 n
  have p0 : PermS n id := PermS.id n
  rw [hn]
  replace hn := Lib.hid hn
  go_enter Tryd.func61, Tryd.ntmps61
  go_upto_region 2 with fail
  go_loopg [7, 8] n (fun gk s7 s8 wx => ∃ (x y t : Nat) (σ : Nat → Nat), s7 = .int .i64 (x : Int) ∧ s8 = .int .i64 (y : Int) ∧ Hid (y = x + 20) ∧ Hid (x + gk = n) ∧ Hid (x = t * 20) ∧ Hid (MakeB (qOf cmp l) σ 20 n t) ∧ Hid (PermS n σ) ∧ RowS wx P g l σ ∧ Far g w wx ∧ g < wx.heap.size)
  case atStart => exact ⟨0, 20, 0, id, rfl, rfl, Lib.hid rfl, Lib.hid (by omega), Lib.hid (by simp), Lib.hid B0, Lib.hid p0, M, BB, hgw⟩
  case round =>
    clear M BB hgw B0 p0
    obtain ⟨x, y, t, σ, rfl, rfl, hy, hgk, hx, hB, hp, M, BB, hgw⟩ := hrel
    have hrest := Lib.hid (hB.out.restx hx)
    have hy1 : x + 20 ≤ y ∧ y ≤ x + 20 := by have := hy.out; omega
    have hgk1 : x ≤ n ∧ n - x ≤ gk ∧ gk ≤ n - x := by have := hgk.out; omega
    by_cases hyn : y ≤ n
    · have hyz : (y : Int) ≤ (n : Int) := by omega
      have hzy : IntKind.i64.wrap ((y : Int) + 20) = (y : Int) + 20 := IntWalk.i64_in _ (by omega)
      go_wp2_with fail
      have hc := insertion_any fc cmp G eg hC g c l σ x y wr P hP M hgw (by rw [hn.out]; exact hnc) hbig hG hq.out (by rw [hn.out]; exact hp.out) (by rw [hn.out]; exact hyn) (by omega) (fun k h1 h2 => hrest.out k h1 (by omega))
      rw [hn.out] at hc
      refine hc.mono ?_
      clear hc
      rintro e w5 ⟨rfl, ⟨τ, M, hpt, hS, ho, hfr⟩, B5, hgw⟩
      obtain ⟨hB2, hx2⟩ := hB.out.stepx hx hy.out hyn hS ho hfr
      replace hB2 := Lib.hid hB2
      replace hpt := Lib.hid hpt
      have BB := BB.trans B5
      clear hS ho hfr hrest B5
      go_upto_region 2 with fail
      go_roundg (n - y)
      case measure => omega
      case rel => exact ⟨y, y + 20, t + 1, τ, rfl, by simp, Lib.hid rfl, Lib.hid (by omega), hx2, hB2, hpt, M, BB, hgw⟩
    · have hyz : ¬ (y : Int) ≤ (n : Int) := by omega
      go_wp2_with fail
      have hc := insertion_any fc cmp G eg hC g c l σ x n wr P hP M hgw (by rw [hn.out]; exact hnc) hbig hG hq.out (by rw [hn.out]; exact hp.out) (by rw [hn.out]; exact Nat.le_refl _) (by omega) (fun k h1 h2 => hrest.out k h1 h2)
      rw [hn.out] at hc
      refine hc.mono ?_
      clear hc
      rintro e w5 ⟨rfl, ⟨τ, M, hpt, hS, ho, hfr⟩, B5, hgw⟩
      have hA := Lib.hid (hB.out.endx hx hy.out (by omega) hS ho hfr)
      replace hpt := Lib.hid hpt
      have BB := BB.trans B5
      clear hS ho hfr hrest B5 hB hp hx hy hyz hyn hgk
      go_upto_region 7 with fail
      go_loopg [6] (n - 20) (fun gk s6 wx => ∃ (s : Nat) (σ : Nat → Nat), s6 = .int .i64 (s : Int) ∧ 20 ≤ s ∧ s ≤ 20000 ∧ gk = n - s ∧ Hid (AllB (qOf cmp l) σ s n) ∧ Hid (PermS n σ) ∧ RowS wx P g l σ ∧ Far g w wx ∧ g < wx.heap.size)
      case atStart => exact ⟨20, τ, rfl, by omega, by omega, by omega, hA, hpt, M, BB, hgw⟩
      case round =>
        clear M BB hgw hA hpt
        obtain ⟨s, σ, rfl, hs1, hs2, hgk, hA, hp, M, BB, hgw⟩ := hrel
        by_cases hsn : s < n
        · have hsz : (s : Int) < (n : Int) := by omega
          obtain ⟨s2, hs2⟩ : ∃ s2, 2 * s = s2 := ⟨_, rfl⟩
          have hz2 : IntKind.i64.wrap (2 * (s : Int)) = (s2 : Int) := (IntWalk.i64_in _ (by omega)).trans (by omega)
          have hz3 : IntKind.i64.wrap ((s : Int) * 2) = (s2 : Int) := (IntWalk.i64_in _ (by omega)).trans (by omega)
          have B0 := Lib.hid (MidB.start hA.out)
          go_upto_region 9 with fail
          go_loopg [7, 8] n (fun gk3 s7 s8 wx => ∃ (x y t : Nat) (σ : Nat → Nat), s7 = .int .i64 (x : Int) ∧ s8 = .int .i64 (y : Int) ∧ Hid (y = x + s2) ∧ Hid (x + gk3 = n) ∧ Hid (x = t * (2 * s)) ∧ Hid (MidB (qOf cmp l) σ s n t) ∧ Hid (PermS n σ) ∧ RowS wx P g l σ ∧ Far g w wx ∧ g < wx.heap.size)
          case atStart => exact ⟨0, s2, 0, σ, rfl, rfl, Lib.hid (by omega), Lib.hid (by omega), Lib.hid (by simp), B0, hp, M, BB, hgw⟩
          case round =>
            clear M BB hgw B0 hp hA
            obtain ⟨x, y, t, σ, rfl, rfl, hy, hgk3, hx, hB, hp, M, BB, hgw⟩ := hrel
            have hy1 : x + s2 ≤ y ∧ y ≤ x + s2 := by have := hy.out; omega
            have hgk1 : x ≤ n ∧ n - x ≤ gk ∧ gk ≤ n - x := by have := hgk3.out; omega
            obtain ⟨xs, hxs⟩ : ∃ xs, x + s = xs := ⟨_, rfl⟩
            have hzx : IntKind.i64.wrap ((x : Int) + (s : Int)) = (xs : Int) := (IntWalk.i64_in _ (by omega)).trans (by omega)
            by_cases hyn : y ≤ n
            · have hyz : (y : Int) ≤ (n : Int) := by omega
              have hzy : IntKind.i64.wrap ((y : Int) + (s2 : Int)) = (y : Int) + (s2 : Int) := IntWalk.i64_in _ (by omega)
              have hP1 := hB.out.pairx hx (by omega) (by omega) hyn
              rw [hxs] at hP1
              replace hP1 := Lib.hid hP1
              go_wp2_with fail
              have hc := sym_any fc cmp G eg hC g c l (by rw [hn.out]; exact hnc) hbig hG hq.out P hP (y - x) σ x xs y wr (Nat.le_refl _) M hgw (by rw [hn.out]; exact hp.out) ⟨by omega, by omega, by rw [hn.out]; exact hyn⟩ hP1.out
              rw [hn.out] at hc
              refine hc.mono ?_
              clear hc
              rintro e w5 ⟨rfl, ⟨τ2, M, hpt, hQ⟩, B5, hgw⟩
              obtain ⟨hB2, hx2⟩ := hB.out.stepx hx (by omega) (by omega) hyn hQ
              replace hB2 := Lib.hid hB2
              replace hpt := Lib.hid hpt
              have BB := BB.trans B5
              clear hQ hP1 B5
              go_upto_region 9 with fail
              go_roundg (n - y)
              case measure => omega
              case rel => exact ⟨y, y + s2, t + 1, τ2, rfl, by simp, Lib.hid rfl, Lib.hid (by omega), hx2, hB2, hpt, M, BB, hgw⟩
            · have hyz : ¬ (y : Int) ≤ (n : Int) := by omega
              by_cases hm : xs < n
              · have hmz : (xs : Int) < (n : Int) := by omega
                have hP1 := hB.out.lastP hx (by omega) (by omega) (by omega)
                rw [hxs] at hP1
                replace hP1 := Lib.hid hP1
                go_wp2_with fail
                have hc := sym_any fc cmp G eg hC g c l (by rw [hn.out]; exact hnc) hbig hG hq.out P hP (n - x) σ x xs n wr (Nat.le_refl _) M hgw (by rw [hn.out]; exact hp.out) ⟨by omega, by omega, by rw [hn.out]; exact Nat.le_refl _⟩ hP1.out
                rw [hn.out] at hc
                refine hc.mono ?_
                clear hc
                rintro e w5 ⟨rfl, ⟨τ2, M, hpt, hQ⟩, B5, hgw⟩
                have hA := hB.out.endm hx (by omega) (by omega) (by omega) hQ
                rw [hs2] at hA
                replace hA := Lib.hid hA
                replace hpt := Lib.hid hpt
                have BB := BB.trans B5
                clear hQ hP1 B5
                go_upto_region 7 with fail
                go_roundg (n - s2)
                case measure => omega
                case rel => exact ⟨s2, τ2, rfl, by omega, by omega, rfl, hA, hpt, M, BB, hgw⟩
              · have hmz : ¬ (xs : Int) < (n : Int) := by omega
                have hA := hB.out.end1 hx (by omega) (by omega)
                rw [hs2] at hA
                replace hA := Lib.hid hA
                go_upto_region 7 with fail
                go_roundg (n - s2)
                case measure => omega
                case rel => exact ⟨s2, σ, rfl, by omega, by omega, rfl, hA, hp, M, BB, hgw⟩
        · have hsz : ¬ (s : Int) < (n : Int) := by omega
          have hfin := hA.out.whole (by omega)
          replace hfin := Lib.hid hfin
          go_wp2_with fail
          go_end0
          exact ⟨rfl, ⟨σ, M, hp.out, hfin.out⟩, BB, hgw⟩

end Go.Proofs.YtilhnjecnhpmlaaDoor
namespace Go.Proofs.YtilhnjecnhpmlaaDoor
open Go.RowKit

theorem SB.at_blk {w w' : World} {b : Nat} {vs : List Value} (h : SB w b vs) (he : w'.heap[b]? = w.heap[b]?) (hs : w.heap.size ≤ w'.heap.size) : SB w' b vs :=
  ⟨fun i v hv => ⟨(show w'.cell? ⟨b, i, none⟩ = w.cell? ⟨b, i, none⟩ from World.cell?_of_block (w := w) he).trans (h.1 i v hv).1, (show w'.frozen? ⟨b, i, none⟩ = w.frozen? ⟨b, i, none⟩ from World.frozen?_of_block (w := w) he).trans (h.1 i v hv).2⟩, Nat.lt_of_lt_of_le h.2 hs⟩
section
variable {cmp : Dat → Dat → Int} {l m m1 m2 : List Dat}
/-- m: the items of l, sorted; equal ones as they came -/
def IsSorted (cmp : Dat → Dat → Int) (l m : List Dat) : Prop := ∃ τ, PermS l.length τ ∧ Srt (qOf cmp l) τ 0 l.length ∧ m = perml l τ
theorem perml_map (l : List Dat) (τ : Nat → Nat) : perml l τ = ((List.range l.length).map τ).map fun s => l.getD s nilD := by simp [perml]
theorem IsSorted.unique (hq : TOrd (qOf cmp l)) (h1 : IsSorted cmp l m1) (h2 : IsSorted cmp l m2) : m1 = m2 := by
  obtain ⟨τ, p1, s1, rfl⟩ := h1
  obtain ⟨ρ, p2, s2, rfl⟩ := h2
  have h : (List.range l.length).map τ = (List.range l.length).map ρ := srt_unique hq (List.Perm.trans p1 (List.Perm.symm p2)) (srt_pairwise s1) (srt_pairwise s2)
  rw [perml_map, perml_map, h]
theorem IsSorted.len (h : IsSorted cmp l m) : m.length = l.length := by
  obtain ⟨τ, _, _, rfl⟩ := h
  exact perml_len l τ
theorem IsSorted.perm (h : IsSorted cmp l m) : m.Perm l := by
  obtain ⟨τ, p1, _, rfl⟩ := h
  have h1 : (perml l τ).Perm (perml l id) := by
    rw [perml_map, perml_map]
    exact (List.Perm.trans p1 (List.Perm.of_eq (by simp))).map _
  rwa [perml_id] at h1
open Classical in
noncomputable def sortL (cmp : Dat → Dat → Int) (l : List Dat) : List Dat := if h : ∃ m, IsSorted cmp l m then h.choose else l
theorem sortL_eq (hq : TOrd (qOf cmp l)) (h : IsSorted cmp l m) : sortL cmp l = m := by
  have he : ∃ m, IsSorted cmp l m := ⟨m, h⟩
  unfold sortL
  rw [dif_pos he]
  exact he.choose_spec.unique hq h
theorem IsSorted.nil (cmp : Dat → Dat → Int) : IsSorted cmp [] [] := ⟨id, PermS.id 0, fun i j _ h1 h2 => by simp at h2, rfl⟩
end

set_option maxRecDepth 100000 in
theorem ins_nil (A : Option Addr) (c : Nat) (fv : Value) (w : World) :
    Calls Tryd.prog 82 #[.slice A 0 c, .int .i64 0, .int .i64 0, fv] w fun e w' => e = .returned (.tuple #[]) ∧ w = w' := by
  go_enter Tryd.func82, Tryd.ntmps82
  go_upto_region 1 with fail
  go_loopg [8] 0 (fun gk s8 wx => s8 = .int .i64 1 ∧ w = wx)
  case atStart => exact ⟨rfl, rfl⟩
  case round =>
    obtain ⟨rfl, rfl⟩ := hrel
    go_wp2_with fail
    go_end0
    exact ⟨rfl, rfl⟩
set_option maxRecDepth 100000 in
theorem stable_nil (A : Option Addr) (c : Nat) (fv : Value) (w : World) :
    Calls Tryd.prog 61 #[.slice A 0 c, .int .i64 0, fv] w fun e w' => e = .returned (.tuple #[]) ∧ w = w' := by
  go_enter Tryd.func61, Tryd.ntmps61
  go_upto_region 2 with fail
  go_loopg [7, 8] 0 (fun gk s7 s8 wx => s7 = .int .i64 0 ∧ s8 = .int .i64 20 ∧ w = wx)
  case atStart => exact ⟨rfl, rfl, rfl⟩
  case round =>
    obtain ⟨rfl, rfl, rfl⟩ := hrel
    go_wp2_with fail
    refine (ins_nil A c fv w).mono ?_
    rintro e w5 ⟨rfl, rfl⟩
    go_upto_region 7 with fail
    go_loopg [6] 0 (fun gk s6 wx => s6 = .int .i64 20 ∧ w = wx)
    case atStart => exact ⟨rfl, rfl⟩
    case round =>
      obtain ⟨rfl, rfl⟩ := hrel
      go_wp2_with fail
      go_end0
      exact ⟨rfl, rfl⟩

set_option maxRecDepth 100000 in
set_option maxHeartbeats 8000000 in
theorem sstable_any (fc : Nat) (cmp : Dat → Dat → Int) (G : Dat → Prop) (eg : ∀ args w, (callFunc fc args).run Tryd.prog w = .ok (.enter fc args) w) (hC : CmpAt fc cmp G) (A : Option Addr) (c : Nat) (l : List Dat) (g N : Nat) (w : World) (P : Nat → Prop) (hN : N ≤ g) (hP : ∀ b, P b → b < N) (hA : 0 < l.length → A = some ⟨g, 0, none⟩ ∧ g < w.heap.size) (M : RowM w P g 0 l) (hl : l.length ≤ c) (hbig : l.length ≤ 10000) (hG : ∀ s, s < l.length → G (l.getD s nilD)) (hq : TOrd (qOf cmp l)) :
    Calls Tryd.prog 47 #[.slice A l.length c, (.func (.func fc) #[] #[])] w fun e w' => e = .returned (.tuple #[]) ∧ RowM w' P g 0 (sortL cmp l) ∧ (sortL cmp l).length = l.length ∧ Below N w w' ∧ (∀ k, (0 < l.length → k ≠ g) → k < w.heap.size → w'.heap[k]? = w.heap[k]?) ∧ (0 < l.length → g < w'.heap.size) := by
  rcases Nat.eq_zero_or_pos l.length with h0 | h0
  · obtain rfl := List.eq_nil_of_length_eq_zero h0
    have hs := sortL_eq hq (IsSorted.nil cmp)
    rw [hs]
    show Calls _ _ #[.slice A 0 c, _] _ _
    clear hs hA hG hq hbig hl h0
    go_enter Tryd.func47, Tryd.ntmps47
    go_wp2_with fail
    refine (stable_nil A c _ w).mono ?_
    rintro e w5 ⟨rfl, rfl⟩
    go_wp2_with fail
    go_end0
    exact ⟨by first | rfl | trivial, M, by first | rfl | trivial, Below.refl N w, fun _ _ _ => rfl, fun h => by simp at h⟩
  · obtain ⟨rfl, hgw⟩ := hA h0
    have M' : RowS w P g l id := by unfold RowS; rw [perml_id]; exact M
    have hst := stable_any fc cmp G eg hC g c l hl hbig hG hq P (fun b hb => by have := hP b hb; omega) w M' hgw
    have hun := fun m h => sortL_eq (m := m) hq h
    replace hun := Lib.hid hun
    clear hA hG hq M M'
    go_enter Tryd.func47, Tryd.ntmps47
    go_wp2_with fail
    refine hst.mono ?_
    clear hst
    rintro e w5 ⟨rfl, ⟨τ, M5, hpt, hS⟩, B5, hgw5⟩
    have hs := hun.out _ ⟨τ, hpt, hS, rfl⟩
    replace hs := Lib.hid hs
    go_wp2_with fail
    go_end0
    rw [hs.out]
    exact ⟨rfl, M5, perml_len l τ, B5.below.mono hN, fun k hk hkw => by
      rcases Nat.lt_or_ge k g with h | h
      · exact B5.below.block k h
      · exact B5.above k (by have := hk h0; omega) hkw, fun _ => hgw5⟩

set_option maxRecDepth 100000 in
set_option maxHeartbeats 8000000 in
theorem sorted_any (fc : Nat) (cmp : Dat → Dat → Int) (G : Dat → Prop) (eg : ∀ args w, (callFunc fc args).run Tryd.prog w = .ok (.enter fc args) w) (hC : CmpAt fc cmp G) (A : Option Addr) (c : Nat) (l : List Dat) (n : Nat) (w : World) (P : Nat → Prop) (hnw : n ≤ w.heap.size) (hP : ∀ b, P b → b < n) (O : ROw w n P A c l) (hbig : l.length ≤ 10000) (hG : ∀ s, s < l.length → G (l.getD s nilD)) (hq : TOrd (qOf cmp l)) (hT : ∀ w', Below n w w' → Tabs w') :
    Calls Tryd.prog 38 #[.slice A l.length c, (.func (.func fc) #[] #[])] w fun e w' => ∃ v', e = .returned (.tuple #[v', .int .i64 (fitE (joinD (sortL cmp l) nilD))]) ∧ RDP w' (Out P n w') (fitD (joinD (sortL cmp l) nilD)) v' ∧ Below n w w' := by
  have S1 := SB.new w [.int .i64 0, .int .i64 0, .bool false, .slice none 0 0, .slice none 0 0, .bool false, .slice none 0 0, .slice none 0 0, .string { data := #[] }, .slice none 0 0, .slice none 0 0] 31
  have B0 := bal w (.cells #[.int .i64 0, .int .i64 0, .bool false, .slice none 0 0, .slice none 0 0, .bool false, .slice none 0 0, .slice none 0 0, .string { data := #[] }, .slice none 0 0, .slice none 0 0] 31)
  have BB := B0.mono hnw
  have hlc := O.len
  obtain ⟨g, hg1, hg, M0⟩ := O.mut'
  have M0 := M0.keep (fun b hb => by have := hP b hb; omega) B0
  obtain ⟨W0, hW0⟩ : ∃ W0, W0 = w.alloc (.cells #[.int .i64 0, .int .i64 0, .bool false, .slice none 0 0, .slice none 0 0, .bool false, .slice none 0 0, .slice none 0 0, .string { data := #[] }, .slice none 0 0, .slice none 0 0] 31) := ⟨_, rfl⟩
  have hs0 : W0.heap.size = w.heap.size + 1 := by rw [hW0]; simp
  rw [← hW0] at S1 BB M0
  have hst := sstable_any fc cmp G eg hC A c l g n W0 P hg1 hP (fun h => ⟨(hg h).1, by have := (hg h).2; omega⟩) M0 hlc hbig hG hq
  clear O B0 hG hq M0
  go_enter Tryd.func38, Tryd.ntmps38
  go_upto_region 1 with fail
  rw [← hW0]
  clear hW0
  generalize hm : w.heap.size = m at *
  go_wp2_with fail
  refine hst.mono ?_
  clear hst
  rintro e w2 ⟨rfl, M2, hsl, B2, hk2, hg2⟩
  have S1 := S1.at_blk (hk2 m (fun h => by have := (hg h).2; omega) (by omega)) B2.size
  have BB := BB.trans B2
  have hN : m + 1 ≤ w2.heap.size := by have := B2.size; omega
  obtain ⟨R, hRp, hRg, hRs, hP⟩ : ∃ R : Nat → Prop, (∀ b, P b → R b) ∧ (0 < l.length → R g) ∧ (∀ b, R b → P b ∨ (b = g ∧ 0 < l.length)) ∧ (∀ b, R b → b < m) :=
    ⟨fun b => P b ∨ (b = g ∧ 0 < l.length), fun b h => .inl h, fun h => .inr ⟨rfl, h⟩, fun b h => h, fun b h => h.elim (fun h => by have := hP b h; omega) (fun h => by have := (hg h.2).2; omega)⟩
  obtain ⟨r, hr⟩ : ∃ r, sortL cmp l = r := ⟨_, rfl⟩
  rw [hr] at M2 hsl
  replace hr := Lib.hid hr
  have L2 : RLs w2 (Out R (m + 1) w2) A c r := M2.rls' (by omega) (by omega) (fun h => (hg (by omega)).1) (fun b hb => .inl (hRp b hb)) (fun h => .inl (hRg (by omega)))
  have hfin : ∀ w' d v, m + 1 ≤ w'.heap.size → RDP w' (Out R (m + 1) w') d v → RDP w' (Out P n w') d v := fun w' d v hs h => h.step (fun _ _ => rfl) (fun b hb => hb.elim (fun h => (hRs b h).elim .inl fun h => .inr ⟨by omega, by have := (hg h.2).2; omega⟩) (fun h => .inr ⟨by omega, h.2⟩))
  replace hfin := Lib.hid hfin
  replace hRp := Lib.hid hRp
  clear hRg hRs
  rw [← hsl]
  have hrl : r.length ≤ 10000 := by omega
  replace hsl := Lib.hid hsl
  clear hg hk2 hg2 M2 B2 hs0
  go_wp2_with fail
  refine (none_any w2).mono ?_
  rintro e w4 ⟨vn, rfl, Rn, B4⟩
  have S1 := S1.nx B4
  have L2 := L2.go hP (by omega) B4
  have BB := BB.trans (B4.mono (by omega))
  have hN := Nat.le_trans hN B4.size
  have Rn := Rn w4 (Out R (m + 1) w4)
  go_wp2_with fail
  refine (join_any A c r nilD vn w4 (Out R (m + 1) w4) (Out.all hP (by omega)) L2 Rn).mono ?_
  rintro e w5 ⟨vj, rfl, Rj, B5⟩
  have Rj := Rj.res hN B5.size
  have S1 := S1.nx B5
  have L2 := L2.go hP (by omega) B5
  have BB := BB.trans (B5.mono (by omega))
  have hN := Nat.le_trans hN B5.size
  go_wp2_with fail
  refine (lfit_any _ vj w5 _ (Out.all hP (by omega)) Rj (hT _ BB)).mono ?_
  rintro e w6 ⟨vf, rfl, Rf, B6⟩
  have Rf := Rf.res hN B6.size
  have S1 := S1.nx B6
  have L2 := L2.go hP (by omega) B6
  have BB := BB.trans (B6.mono (by omega))
  have hN := Nat.le_trans hN B6.size
  obtain ⟨cs, rfl, cl, co⟩ := Rf.agg
  match cs, cl, co with
  | [x0, x1, x2, x3, x4, x5, x6, x7, x8, x9, x10], _, co =>
  go_wp2_with (refine wp_stD rfl rfl (.tmp 4) (.tmp 13) rfl (m) rfl [x0, x1, x2, x3, x4, x5, x6, x7, x8, x9, x10] rfl rfl _ S1 rfl co ?_)
  have S2 := S1.cells [x0, x1, x2, x3, x4, x5, x6, x7, x8, x9, x10] rfl
  have r0 := S2.cell 0; have r1 := S2.cell 1; have r2 := S2.cell 2; have r3 := S2.cell 3; have r4 := S2.cell 4; have r5 := S2.cell 5; have r6 := S2.cell 6; have r7 := S2.cell 7; have r8 := S2.cell 8; have r9 := S2.cell 9; have r10 := S2.cell 10
  refine bodyPost_ret (v := .tuple #[.agg #[x0, x1, x2, x3, x4, x5, x6, x7, x8, x9, x10], .int .i64 (fitE (joinD r nilD))]) (by simp [results, r0, r1, r2, r3, r4, r5, r6, r7, r8, r9, r10, go_sem]) rfl ?_
  rw [hr.out]
  exact ⟨_, rfl, hfin.out _ _ _ (by rw [size_sc]; omega) (Rf.scO hP (by omega) (g := m) (Nat.le_refl _) (Nat.lt_succ_self _) 0 [x0, x1, x2, x3, x4, x5, x6, x7, x8, x9, x10]), below_cso BB (by omega) 0 [x0, x1, x2, x3, x4, x5, x6, x7, x8, x9, x10]⟩

end Go.Proofs.YtilhnjecnhpmlaaDoor
namespace Go.Proofs.YtilhnjecnhpmlaaDoor
open Go.RowKit

/-- the order of data -/
def ordQ (x y : Dat) : Int := x.ord numQ y
theorem cmp_eord : CmpAt 39 ordQ (fun d => d.Good vU) := fun _ _ _ _ _ _ hP gx gy h1 h2 => eord_any vU (h1.rd hP) (h2.rd hP) gx gy
set_option maxRecDepth 100000 in
theorem enters_eord : ∀ args w, (callFunc 39 args).run Tryd.prog w = .ok (.enter 39 args) w := fun args w => by
  have hf : Tryd.prog.funcs[39]? = some Tryd.f39 := by kernel_rfl
  have hn : (Tryd.f39.name == "runtime.NumGoroutine") = false := by kernel_rfl
  have hb : Tryd.f39.body.isNone = false := by kernel_rfl
  have hn2 : ¬ Tryd.f39.name = "runtime.NumGoroutine" := fun h => by rw [h] at hn; cases hn
  have hb2 : ¬ Tryd.f39.body = none := fun h => by rw [h] at hb; cases hb
  simp [callFunc, go_sem, hf, hn2, hb2]
theorem tord_ord {l : List Dat} (h : ∀ s, (l.getD s nilD).Good vU) : TOrd (qOf ordQ l) := ⟨fun s t => ord_turn numOrd _ _ (h s) (h t), fun s t u => ord_tr numOrd _ _ _ (h s) (h t) (h u)⟩
theorem nil_good : nilD.Good vU := Dat.sound_good (by decide +kernel)
theorem listL_good (d : Dat) : ∀ x ∈ listL d, x.Good vU := by
  unfold listL
  intro x hx
  split at hx
  · rename_i hs
    split at hx
    · rename_i hk
      obtain ⟨hj, _⟩ := join_parts hs
      rw [hj, join_sound vU_nil] at hs
      exact (hs.1 x hx).1
    · cases hx
  · cases hx
theorem getD_good {l : List Dat} (h : ∀ x ∈ l, x.Good vU) (s : Nat) : (l.getD s nilD).Good vU := by
  rw [List.getD_eq_getElem?_getD]
  by_cases c : s < l.length
  · rw [List.getElem?_eq_getElem c]; exact h _ (List.getElem_mem c)
  · rw [List.getElem?_eq_none (by omega)]; exact nil_good
noncomputable def sortD (d : Dat) : Dat := joinD (sortL ordQ (listL d)) nilD

set_option maxRecDepth 100000 in
set_option maxHeartbeats 8000000 in
theorem lsort_any (d : Dat) (v : Value) (w : World) (P : Nat → Prop) (hP : ∀ b, P b → b < w.heap.size) (hR : RDP w P d v) (hT : Tabs w) :
    Calls Tryd.prog 20 #[v] w fun e w' => ∃ v', e = .returned (.tuple #[v', .int .i64 (ansE d (sortD d))]) ∧ RDP w' (Out P w.heap.size w') (ansD d (sortD d)) v' ∧ Below w.heap.size w w' := by
  obtain ⟨ls, rfl, ll, lo⟩ := hR.agg
  match ls, ll, lo with
  | [y0, y1, y2, y3, y4, y5, y6, y7, y8, y9, y10], _, lo =>
  have S0 := SB.new w [y0, y1, y2, y3, y4, y5, y6, y7, y8, y9, y10] 31
  have BB := bal w (.cells #[y0, y1, y2, y3, y4, y5, y6, y7, y8, y9, y10] 31)
  have S1 := SB.new (w.alloc (.cells #[y0, y1, y2, y3, y4, y5, y6, y7, y8, y9, y10] 31)) [.int .i64 0, .int .i64 0, .bool false, .slice none 0 0, .slice none 0 0, .bool false, .slice none 0 0, .slice none 0 0, .string { data := #[] }, .slice none 0 0, .slice none 0 0] 31
  have z1 : (w.alloc (.cells #[y0, y1, y2, y3, y4, y5, y6, y7, y8, y9, y10] 31)).heap.size = w.heap.size + 1 := by simp
  have B1 := bal (w.alloc (.cells #[y0, y1, y2, y3, y4, y5, y6, y7, y8, y9, y10] 31)) (.cells #[.int .i64 0, .int .i64 0, .bool false, .slice none 0 0, .slice none 0 0, .bool false, .slice none 0 0, .slice none 0 0, .string { data := #[] }, .slice none 0 0, .slice none 0 0] 31)
  have S0 := S0.nx B1
  have BB := bt BB B1
  rw [z1] at S1
  clear B1 z1
  have R0 : RDP _ P d _ := hR.step (fun z hz => BB.block z (hP z hz)) (fun z hz => hz)
  obtain ⟨W0, hW0⟩ : ∃ W0, W0 = (w.alloc (.cells #[y0, y1, y2, y3, y4, y5, y6, y7, y8, y9, y10] 31)).alloc (.cells #[.int .i64 0, .int .i64 0, .bool false, .slice none 0 0, .slice none 0 0, .bool false, .slice none 0 0, .slice none 0 0, .string { data := #[] }, .slice none 0 0, .slice none 0 0] 31) := ⟨_, rfl⟩
  have hN : w.heap.size + 2 ≤ W0.heap.size := by rw [hW0]; simp
  rw [← hW0] at S0 S1 BB R0
  go_enter Tryd.func20, Tryd.ntmps20
  go_upto_region 1 with fail
  rw [← hW0]
  clear hW0 hR
  generalize hn : w.heap.size = n at *
  have k0 := S0.cell 0; have k1 := S0.cell 1; have k2 := S0.cell 2; have k3 := S0.cell 3; have k4 := S0.cell 4; have k5 := S0.cell 5; have k6 := S0.cell 6; have k7 := S0.cell 7; have k8 := S0.cell 8; have k9 := S0.cell 9; have k10 := S0.cell 10
  go_wp2_with fail
  refine (lread_any d _ W0 P (fun z hz => by have := hP z hz; omega) R0 (hT.go hn BB)).mono ?_
  rintro e w2 ⟨A, c, rfl, O2, B2⟩
  clear k0 k1 k2 k3 k4 k5 k6 k7 k8 k9 k10
  have S1 := S1.nx B2
  have BB := BB.trans (B2.mono (by omega))
  have hlc := O2.len
  have O2 := O2.base_le (B := n + 2) (by omega)
  have hN := Nat.le_trans hN B2.size
  have hlen := listL_len d
  clear S0 R0 B2
  rcases listE_cases d with he | he | he
  · rw [he]
    go_wp2_with (refine wp_stD rfl rfl (.tmp 2) (.tmp 13) rfl (n + 1) rfl [.int .i64 0, .int .i64 0, .bool false, .slice none 0 0, .slice none 0 0, .bool false, .slice none 0 0, .slice none 0 0, .string { data := #[] }, .slice none 0 0, .slice none 0 0] rfl rfl _ S1 rfl (by simp [Value.oneCell']) ?_)
    have S2 := S1.cells [.int .i64 0, .int .i64 0, .bool false, .slice none 0 0, .slice none 0 0, .bool false, .slice none 0 0, .slice none 0 0, .string { data := #[] }, .slice none 0 0, .slice none 0 0] rfl
    have r0 := S2.cell 0; have r1 := S2.cell 1; have r2 := S2.cell 2; have r3 := S2.cell 3; have r4 := S2.cell 4; have r5 := S2.cell 5; have r6 := S2.cell 6; have r7 := S2.cell 7; have r8 := S2.cell 8; have r9 := S2.cell 9; have r10 := S2.cell 10
    refine bodyPost_ret (v := .tuple #[.agg #[.int .i64 0, .int .i64 0, .bool false, .slice none 0 0, .slice none 0 0, .bool false, .slice none 0 0, .slice none 0 0, .string { data := #[] }, .slice none 0 0, .slice none 0 0], .int .i64 2]) (by simp [results, r0, r1, r2, r3, r4, r5, r6, r7, r8, r9, r10, go_sem]) rfl ?_
    try rw [hn]
    rw [(ans_err (by rw [he]; decide)).1, (ans_err (by rw [he]; decide)).2, he]
    exact ⟨_, rfl, rd_zeroD _ _, below_cso BB (by omega) 0 [.int .i64 0, .int .i64 0, .bool false, .slice none 0 0, .slice none 0 0, .bool false, .slice none 0 0, .slice none 0 0, .string { data := #[] }, .slice none 0 0, .slice none 0 0]⟩
  · rw [he]
    go_wp2_with (refine wp_stD rfl rfl (.tmp 2) (.tmp 13) rfl (n + 1) rfl [.int .i64 0, .int .i64 0, .bool false, .slice none 0 0, .slice none 0 0, .bool false, .slice none 0 0, .slice none 0 0, .string { data := #[] }, .slice none 0 0, .slice none 0 0] rfl rfl _ S1 rfl (by simp [Value.oneCell']) ?_)
    have S2 := S1.cells [.int .i64 0, .int .i64 0, .bool false, .slice none 0 0, .slice none 0 0, .bool false, .slice none 0 0, .slice none 0 0, .string { data := #[] }, .slice none 0 0, .slice none 0 0] rfl
    have r0 := S2.cell 0; have r1 := S2.cell 1; have r2 := S2.cell 2; have r3 := S2.cell 3; have r4 := S2.cell 4; have r5 := S2.cell 5; have r6 := S2.cell 6; have r7 := S2.cell 7; have r8 := S2.cell 8; have r9 := S2.cell 9; have r10 := S2.cell 10
    refine bodyPost_ret (v := .tuple #[.agg #[.int .i64 0, .int .i64 0, .bool false, .slice none 0 0, .slice none 0 0, .bool false, .slice none 0 0, .slice none 0 0, .string { data := #[] }, .slice none 0 0, .slice none 0 0], .int .i64 10]) (by simp [results, r0, r1, r2, r3, r4, r5, r6, r7, r8, r9, r10, go_sem]) rfl ?_
    try rw [hn]
    rw [(ans_err (by rw [he]; decide)).1, (ans_err (by rw [he]; decide)).2, he]
    exact ⟨_, rfl, rd_zeroD _ _, below_cso BB (by omega) 0 [.int .i64 0, .int .i64 0, .bool false, .slice none 0 0, .slice none 0 0, .bool false, .slice none 0 0, .slice none 0 0, .string { data := #[] }, .slice none 0 0, .slice none 0 0]⟩
  · rw [he]
    have hgd := getD_good (listL_good d)
    have hsD : sortD d = joinD (sortL ordQ (listL d)) nilD := rfl
    generalize hl0 : listL d = l at *
    replace he := Lib.hid he
    replace hsD := Lib.hid hsD
    have hst := sorted_any 39 ordQ _ enters_eord cmp_eord A c l (n + 2) w2 P hN (fun z hz => by have := hP z hz; omega) O2 hlen (fun s _ => hgd s) (tord_ord hgd) (fun w' hb => hT.go hn (BB.trans (hb.mono (by omega))))
    clear hgd hl0 O2
    go_wp2_with fail
    refine hst.mono ?_
    clear hst
    rintro e w6 ⟨vf, rfl, Rf, B6⟩
    have S1 := S1.lo B6 (by omega)
    have BB := BB.trans (B6.mono (by omega))
    have hN := Nat.le_trans hN B6.size
    obtain ⟨cs, rfl, cl, co⟩ := Rf.agg
    match cs, cl, co with
    | [x0, x1, x2, x3, x4, x5, x6, x7, x8, x9, x10], _, co =>
    rw [← hsD.out]
    go_wp2_with (refine wp_stD rfl rfl (.tmp 2) (.tmp 17) rfl (n + 1) rfl [x0, x1, x2, x3, x4, x5, x6, x7, x8, x9, x10] rfl rfl _ S1 rfl co ?_)
    have S2 := S1.cells [x0, x1, x2, x3, x4, x5, x6, x7, x8, x9, x10] rfl
    have r0 := S2.cell 0; have r1 := S2.cell 1; have r2 := S2.cell 2; have r3 := S2.cell 3; have r4 := S2.cell 4; have r5 := S2.cell 5; have r6 := S2.cell 6; have r7 := S2.cell 7; have r8 := S2.cell 8; have r9 := S2.cell 9; have r10 := S2.cell 10
    refine bodyPost_ret (v := .tuple #[.agg #[x0, x1, x2, x3, x4, x5, x6, x7, x8, x9, x10], .int .i64 (fitE (sortD d))]) (by simp [results, r0, r1, r2, r3, r4, r5, r6, r7, r8, r9, r10, go_sem]) rfl ?_
    try rw [hn]
    rw [(ans_ok he.out).1, (ans_ok he.out).2]
    exact ⟨_, rfl, ((hsD.out ▸ Rf).scO hP (by omega) (g := n + 1) (by omega) (by omega) 0 [x0, x1, x2, x3, x4, x5, x6, x7, x8, x9, x10]).from_ (by omega), below_cso BB (by omega) 0 [x0, x1, x2, x3, x4, x5, x6, x7, x8, x9, x10]⟩

end Go.Proofs.YtilhnjecnhpmlaaDoor
namespace Go.Proofs.YtilhnjecnhpmlaaDoor

section
variable {cmp : Dat → Dat → Int} {l : List Dat}
theorem perms_of {n : Nat} {L : List Nat} (h : L.Perm (List.range n)) : PermS n (fun i => L.getD i 0) := by
  have hl : L.length = n := by have := h.length_eq; simpa using this
  unfold PermS
  have : (List.range n).map (fun i => L.getD i 0) = L := by
    refine List.ext_getElem (by simp [hl]) fun i h1 h2 => ?_
    simp [List.getD_eq_getElem?_getD, h2]
  rw [this]
  exact h
open Classical in
theorem isSorted_any (hq : TOrd (qOf cmp l)) : IsSorted cmp l (sortL cmp l) := by
  have key : ∃ m, IsSorted cmp l m := by
    let le : Nat → Nat → Bool := fun s t => decide (s = t ∨ tlt (qOf cmp l) s t)
    have hp : (List.mergeSort (List.range l.length) le).Perm (List.range l.length) := List.mergeSort_perm _ _
    have hs : (List.mergeSort (List.range l.length) le).Pairwise (fun a b => le a b = true) := by
      refine List.pairwise_mergeSort ?_ ?_ _
      · intro a b c h1 h2
        have h1 := of_decide_eq_true h1
        have h2 := of_decide_eq_true h2
        refine decide_eq_true ?_
        rcases h1 with rfl | h1
        · exact h2
        · rcases h2 with rfl | h2
          · exact .inr h1
          · exact .inr (h1.trans hq h2)
      · intro a b
        by_cases e : a = b
        · subst e; simp [le]
        · rcases tlt_tot hq e with h | h
          · simp [le, h]
          · simp [le, h]
    have hnd : (List.mergeSort (List.range l.length) le).Nodup := hp.nodup_iff.2 List.nodup_range
    generalize List.mergeSort (List.range l.length) le = L at *
    refine ⟨_, _, perms_of hp, fun i j _ hij hj => ?_, rfl⟩
    have hl : L.length = l.length := by have := hp.length_eq; simpa using this
    have hi2 : i < L.length := by omega
    have hj2 : j < L.length := by omega
    have h1 := List.pairwise_iff_getElem.1 hs i j hi2 hj2 hij
    have h2 := List.pairwise_iff_getElem.1 hnd i j hi2 hj2 hij
    show tlt _ (L.getD i 0) (L.getD j 0)
    rw [List.getD_eq_getElem?_getD, List.getD_eq_getElem?_getD, List.getElem?_eq_getElem hi2, List.getElem?_eq_getElem hj2]
    exact (of_decide_eq_true h1).resolve_left h2
  obtain ⟨m, hm⟩ := key
  rw [sortL_eq hq hm]
  exact hm
theorem sortL_len (hq : TOrd (qOf cmp l)) : (sortL cmp l).length = l.length := (isSorted_any hq).len
theorem sortL_perm (hq : TOrd (qOf cmp l)) : (sortL cmp l).Perm l := (isSorted_any hq).perm
theorem IsSorted.le {m : List Dat} (h : IsSorted cmp l m) {i j : Nat} (hij : i < j) (hj : j < m.length) : cmp (m.getD i nilD) (m.getD j nilD) ≤ 0 := by
  have hl := h.len
  obtain ⟨τ, _, hs, rfl⟩ := h
  have hg : ∀ k, k < l.length → (perml l τ).getD k nilD = l.getD (τ k) nilD := fun k hk => by
    rw [List.getD_eq_getElem?_getD, List.getElem?_eq_getElem (by omega), Option.getD_some, perml_get]
  rw [hg i (by omega), hg j (by omega)]
  have h1 := hs i j (Nat.zero_le _) hij (by omega)
  rcases h1 with h1 | h1
  · exact Int.le_of_lt h1
  · exact Int.le_of_eq h1.1
theorem sortL_again (hq : TOrd (qOf cmp l)) (hq2 : TOrd (qOf cmp (sortL cmp l))) : sortL cmp (sortL cmp l) = sortL cmp l := by
  have h := isSorted_any hq
  refine sortL_eq hq2 ⟨id, PermS.id _, fun i j _ hij hj => ?_, (perml_id _).symm⟩
  have h1 : qOf cmp (sortL cmp l) i j ≤ 0 := h.le hij hj
  rcases Int.lt_or_eq_of_le h1 with h2 | h2
  · exact .inl h2
  · exact .inr ⟨h2, hij⟩
end
end Go.Proofs.YtilhnjecnhpmlaaDoor
namespace Go.Proofs.YtilhnjecnhpmlaaDoor

section
variable {l : List Dat}
theorem good_of_join (h : (joinD l nilD).sound vU = true) : ∀ x ∈ l, x.Good vU := fun x hx => by
  rw [join_sound vU_nil] at h
  exact (h.1 x hx).1
theorem tord_join (h : (joinD l nilD).sound vU = true) : TOrd (qOf ordQ l) := tord_ord (getD_good (good_of_join h))
/-- a list that is sound, sorted -/
theorem sort_join (h : (joinD l nilD).sound vU = true) : (joinD (sortL ordQ l) nilD).sound vU = true ∧ ansE (joinD l nilD) (sortD (joinD l nilD)) = 0 ∧ ansD (joinD l nilD) (sortD (joinD l nilD)) = joinD (sortL ordQ l) nilD := by
  obtain ⟨h1, h2⟩ := listE_join h
  have h3 : (joinD (sortL ordQ l) nilD).sound vU = true := perm_sound vU_nil h (sortL_perm (tord_join h))
  have h4 : sortD (joinD l nilD) = joinD (sortL ordQ l) nilD := by unfold sortD; rw [h2]
  rw [(ans_ok h1).1, (ans_ok h1).2, h4, (fit_yes h3).1, (fit_yes h3).2]
  exact ⟨h3, rfl, rfl⟩
theorem order_no (h : ansE (ofD l) (sortD (ofD l)) ≠ 0) : (ofD l).sound vU = false := by
  cases hs : (ofD l).sound vU with
  | false => rfl
  | true =>
    obtain ⟨h1, h2⟩ := of_sound hs
    rw [h2] at h
    exact (h (sort_join h1).2.1).elim
theorem order_sound (h : ansE (ofD l) (sortD (ofD l)) = 0) : (joinD l nilD).sound vU = true ∧ ofD l = joinD l nilD := by
  cases hs : (ofD l).sound vU with
  | true => exact of_sound hs
  | false =>
    have h1 := (list_no hs).1
    rw [(ans_err (by rw [h1]; decide)).2, h1] at h
    cases h
theorem rev_joinE {a : List Dat} (hx : (joinD a nilD).sound vU = true) : ansE (joinD a nilD) (revD (joinD a nilD)) = 0 := by
  obtain ⟨h1, h2⟩ := listE_join hx
  have h3 : (joinD a.reverse nilD).sound vU = true := perm_sound vU_nil hx (List.reverse_perm a)
  rw [(ans_ok h1).2]
  unfold revD
  rw [h2, (fit_yes h3).2]
/-- ListsOrder's straight part -/
theorem order_yes (h : ansE (ofD l) (sortD (ofD l)) = 0) :
    ∃ m, sortL ordQ l = m ∧ m.Perm l ∧ m.length = l.length ∧ (joinD l nilD).sound vU = true ∧ (joinD m nilD).sound vU = true ∧ ofD l = joinD l nilD ∧ ansD (ofD l) (sortD (ofD l)) = joinD m nilD ∧
      listE (joinD m nilD) = 0 ∧ listL (joinD m nilD) = m ∧ ansE (joinD m nilD) (sortD (joinD m nilD)) = 0 ∧ ansD (joinD m nilD) (sortD (joinD m nilD)) = joinD m nilD ∧
      ansE (joinD l nilD) (revD (joinD l nilD)) = 0 ∧ ansD (joinD l nilD) (revD (joinD l nilD)) = joinD l.reverse nilD ∧
      ansE (joinD l.reverse nilD) (revD (joinD l.reverse nilD)) = 0 ∧ ansD (joinD l.reverse nilD) (revD (joinD l.reverse nilD)) = joinD l nilD ∧
      (∀ k, k + 1 < m.length → ¬ 0 < cmpD vU (m.getD k nilD) (m.getD (k + 1) nilD)) := by
  obtain ⟨h1, h2⟩ := order_sound h
  have hq := tord_join h1
  obtain ⟨h3, h4, h5⟩ := sort_join h1
  obtain ⟨h6, h7, h8⟩ := sort_join h3
  obtain ⟨h9, h10⟩ := listE_join h3
  rw [sortL_again hq (tord_join h3)] at h8
  obtain ⟨r1, r2⟩ := rev_join h1
  obtain ⟨r3, r4⟩ := rev_join r2
  rw [List.reverse_reverse] at r3
  refine ⟨_, rfl, sortL_perm hq, sortL_len hq, h1, h3, h2, by rw [h2]; exact h5, h9, h10, h7, h8, rev_joinE h1, r1, rev_joinE r2, r3, fun k hk hc => ?_⟩
  have hle := (isSorted_any hq).le (i := k) (j := k + 1) (by omega) hk
  unfold cmpD at hc
  split at hc
  · have : ordQ ((sortL ordQ l).getD k nilD) ((sortL ordQ l).getD (k + 1) nilD) > 0 := hc
    omega
  · omega
/-- how many of the first k -/
def cntK (x : Dat) (l : List Dat) (k : Nat) : Nat := (l.take k).countP fun y => eqD vU y x
theorem cntK_zero (x : Dat) (l : List Dat) : cntK x l 0 = 0 := by simp [cntK]
theorem cntK_le (x : Dat) (l : List Dat) (k : Nat) : cntK x l k ≤ k := by
  unfold cntK
  exact Nat.le_trans List.countP_le_length (by rw [List.length_take]; omega)
theorem cntK_step (x : Dat) (l : List Dat) {k : Nat} (hk : k < l.length) : cntK x l (k + 1) = if eqD vU (l.getD k nilD) x = true then cntK x l k + 1 else cntK x l k := by
  unfold cntK
  rw [List.take_succ_eq_append_getElem hk, List.countP_append, List.getD_eq_getElem?_getD, List.getElem?_eq_getElem hk, Option.getD_some]
  by_cases h : eqD vU l[k] x = true
  · simp [h]
  · simp [h]
theorem cntK_perm (x : Dat) {m : List Dat} (h : m.Perm l) : cntK x m m.length = cntK x l m.length := by
  have hl := h.length_eq
  unfold cntK
  rw [List.take_length, hl, List.take_length]
  exact h.countP_eq _
end
end Go.Proofs.YtilhnjecnhpmlaaDoor
