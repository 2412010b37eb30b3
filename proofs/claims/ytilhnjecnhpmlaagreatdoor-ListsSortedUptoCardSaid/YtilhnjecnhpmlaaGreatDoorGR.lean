/- Merged texts: EqA, LisN, LisO, LisQ. -/
import Derived.Test.YtilhnjecnhpmlaaGreatDoorGQ
import Derived.Test.YtilhnjecnhpmlaaGreatDoorGL
import Derived.Test.YtilhnjecnhpmlaaGreatDoorGN
namespace Go.Proofs.YtilhnjecnhpmlaaGreatDoor
open Go.RowKit

theorem cmpQ_lt {p q : Rat} (h : p < q) : cmpQ p q = -1 := by
  unfold cmpQ
  rw [if_pos (qn_iff.2 (by grind))]
theorem cmpQ_gt {p q : Rat} (h : q < p) : cmpQ p q = 1 := by
  have h1 : qn (p + -q) = false := by
    cases h2 : qn (p + -q) with
    | false => rfl
    | true => have := qn_iff.1 h2; grind
  have h2 : qt (p + -q) ≠ 0 := fun h3 => by have := qt_zero.1 h3; grind
  unfold cmpQ
  rw [h1, if_neg (by simp), if_pos (by omega)]
theorem cmpQ_eq (p : Rat) : cmpQ p p = 0 := by
  unfold cmpQ
  rw [show p + -p = 0 by grind]
  rfl
theorem cmpQ_cases (p q : Rat) : (p < q ∧ cmpQ p q = -1) ∨ (p = q ∧ cmpQ p q = 0) ∨ (q < p ∧ cmpQ p q = 1) := by
  by_cases h : p < q
  · exact Or.inl ⟨h, cmpQ_lt h⟩
  · by_cases h2 : p = q
    · subst h2
      exact Or.inr (Or.inl ⟨rfl, cmpQ_eq p⟩)
    · have h3 : q < p := by grind
      exact Or.inr (Or.inr ⟨h3, cmpQ_gt h3⟩)
theorem cmpQ_neg (p q : Rat) : cmpQ q p = -cmpQ p q := by
  rcases cmpQ_cases p q with ⟨h, e⟩ | ⟨h, e⟩ | ⟨h, e⟩
  · rw [e, cmpQ_gt h]; rfl
  · rw [e, h, cmpQ_eq]; rfl
  · rw [e, cmpQ_lt h]

theorem numQ_nb {r i r' i' : Rw} (h : nB r i = true) (h' : nB r' i' = true) : numQ r i r' i' = 0 ↔ r = r' ∧ i = i' := by
  obtain ⟨x, y, rfl, rfl, h1, h2⟩ := nB_rat h
  obtain ⟨u, v, rfl, rfl, h3, h4⟩ := nB_rat h'
  unfold numQ
  rw [qv_rwq, qv_rwq, qv_rwq, qv_rwq]
  rcases cmpQ_cases x u with ⟨a, e⟩ | ⟨a, e⟩ | ⟨a, e⟩
  · rw [e]; simp; intro h; exact absurd (rwq_inj h) (by grind)
  · rw [e, a]; simp
    rcases cmpQ_cases y v with ⟨b, f⟩ | ⟨b, f⟩ | ⟨b, f⟩
    · rw [f]; simp; intro h; exact absurd (rwq_inj h) (by grind)
    · rw [f, b]; simp
    · rw [f]; simp; intro h; exact absurd (rwq_inj h) (by grind)
  · rw [e]; simp; intro h; exact absurd (rwq_inj h) (by grind)
theorem cmpQ_tr (x y z : Rat) : TR (cmpQ x y) (cmpQ y z) (cmpQ x z) := by
  unfold TR
  rcases cmpQ_cases x y with ⟨a, e⟩ | ⟨a, e⟩ | ⟨a, e⟩ <;> rcases cmpQ_cases y z with ⟨b, f⟩ | ⟨b, f⟩ | ⟨b, f⟩ <;> rcases cmpQ_cases x z with ⟨c, g⟩ | ⟨c, g⟩ | ⟨c, g⟩ <;> rw [e, f, g] <;> first | omega | (exfalso; grind)
theorem numOrd : NumOrd numQ where
  turn := fun _ _ => by
    unfold numQ
    exact lex_turn (cmpQ_neg _ _) (fun _ => cmpQ_neg _ _)
  zero := fun h h' => numQ_nb h h'
  tr := fun _ _ _ => by
    unfold numQ
    exact (cmpQ_tr _ _ _).lex fun _ _ _ => cmpQ_tr _ _ _


/-- the data of awake -/
def dA : Dat := .mk 2 0 ⟨false, [], []⟩ ⟨false, [], []⟩ ByteArray.empty [] []
def dB : Dat := .mk 2 1 ⟨false, [], []⟩ ⟨false, [], []⟩ ByteArray.empty [] []
end Go.Proofs.YtilhnjecnhpmlaaGreatDoor
namespace Go.Proofs.YtilhnjecnhpmlaaGreatDoor
open Go.RowKit

end Go.Proofs.YtilhnjecnhpmlaaGreatDoor
namespace Go.Proofs.YtilhnjecnhpmlaaGreatDoor
open Go.RowKit

end Go.Proofs.YtilhnjecnhpmlaaGreatDoor
namespace Go.Proofs.YtilhnjecnhpmlaaGreatDoor
open Go.RowKit

noncomputable def findI (q : Dat → Bool) (l : List Dat) : Int := if l.findIdx q < l.length then (l.findIdx q : Int) else -1
theorem find_hit {q : Dat → Bool} {l : List Dat} {k : Nat} (hk : k < l.length) (h : ∀ i (hi : i < l.length), i < k → q l[i] = false) (he : q l[k] = true) : findI q l = k := by
  have : l.findIdx q = k := by
    rw [List.findIdx_eq hk]
    exact ⟨he, fun j hj => h j (by omega) hj⟩
  unfold findI
  rw [this, if_pos hk]
theorem find_none {q : Dat → Bool} {l : List Dat} (h : ∀ i (hi : i < l.length), q l[i] = false) : findI q l = -1 := by
  have : l.findIdx q = l.length := List.findIdx_eq_length.2 fun y hy => by
    obtain ⟨i, hi, rfl⟩ := List.getElem_of_mem hy
    exact h i hi
  unfold findI
  rw [this, if_neg (Nat.lt_irrefl _)]
theorem find_cases (q : Dat → Bool) (l : List Dat) : (findI q l = -1 ∧ ∀ y ∈ l, q y = false) ∨ ∃ k, ∃ hk : k < l.length, findI q l = (k : Int) ∧ (∀ i (hi : i < l.length), i < k → q l[i] = false) ∧ q l[k] = true := by
  by_cases h : l.findIdx q < l.length
  · refine .inr ⟨l.findIdx q, h, ?_, fun i hi hk => by simpa using List.not_of_lt_findIdx hk, List.findIdx_getElem⟩
    unfold findI; rw [if_pos h]
  · refine .inl ⟨?_, fun y hy => ?_⟩
    · unfold findI; rw [if_neg h]
    · have : l.findIdx q = l.length := by have := List.findIdx_le_length (p := q) (xs := l); omega
      exact List.findIdx_eq_length.1 this y hy

set_option maxRecDepth 100000 in
theorem pairs1_any (y : Dat) (vy : Value) (w : World) (P : Nat → Prop) (hY : RDP w P y vy) : Calls Tryz.prog 44 #[vy] w fun e w' => e = .returned (.bool (y.k != 8)) ∧ Below w.heap.size w w' := by
  obtain ⟨cs, rfl, cl, co⟩ := hY.agg
  obtain ⟨y1, y2, y3, y4, y5, y6, y7, y8, y9, y10, rfl, -⟩ := hY.head
  have S0 := SB.new w [.int .i64 y.k, y1, y2, y3, y4, y5, y6, y7, y8, y9, y10] 30
  have BB := bal w (.cells #[.int .i64 y.k, y1, y2, y3, y4, y5, y6, y7, y8, y9, y10] 30)
  clear hY co
  generalize y.k = k at *
  have k0 := S0.cell 0
  go_enter Tryz.func44, Tryz.ntmps44
  go_wp2_with fail
  go_ret
  exact ⟨rfl, BB⟩
set_option maxRecDepth 100000 in
set_option maxHeartbeats 8000000 in
theorem index_p (A : Option Addr) (c : Nat) (l : List Dat) (w : World) (P : Nat → Prop) (hP : ∀ b, P b → b < w.heap.size) (hL : RLs w P A c l) :
    Calls Tryz.prog 45 #[.slice A l.length c, .func (.func 44) #[] #[]] w fun e w' => e = .returned (.int .i64 (findI (fun y : Dat => y.k != 8) l)) ∧ Below w.heap.size w w' := by
  have hl1 := hL.2.1
  go_enter Tryz.func45, Tryz.ntmps45
  go_upto_region 2 with fail
  have BB := Below.refl w.heap.size w
  have hN : w.heap.size ≤ w.heap.size := Nat.le_refl _
  generalize hn : w.heap.size = n at *
  go_loopg [8] l.length (fun gk s8 wx => ∃ k : Nat, s8 = .int .i64 (k : Int) ∧ k + gk = l.length ∧ RLs wx P A c l ∧ Below n w wx ∧ n ≤ wx.heap.size ∧ ∀ i (hi : i < l.length), i < k → (fun y : Dat => y.k != 8) l[i] = false)
  case atStart => exact ⟨0, rfl, by omega, hL, BB, by omega, fun i _ h => by omega⟩
  case round =>
    clear hL BB hN 
    obtain ⟨k, rfl, hgk, L1, BB, hN, hno⟩ := hrel
    replace hno := Lib.hid hno
    by_cases hk : k < l.length
    · obtain ⟨b, off, rfl, hPb, cs, cl, co, Rx, rx⟩ := L1.at_ hk
      match cs, cl, co with
      | [z0, z1, z2, z3, z4, z5, z6, z7, z8, z9, z10], _, co =>
      have hkz : (k : Int) < (l.length : Int) := by omega
      
      have k0 := rx 0 _ rfl; have k1 := rx 1 _ rfl; have k2 := rx 2 _ rfl; have k3 := rx 3 _ rfl; have k4 := rx 4 _ rfl; have k5 := rx 5 _ rfl; have k6 := rx 6 _ rfl; have k7 := rx 7 _ rfl; have k8 := rx 8 _ rfl; have k9 := rx 9 _ rfl; have k10 := rx 10 _ rfl
      simp only [Nat.add_zero] at k0
      go_upto_region 4 with fail
      go_wp2_with fail
      refine (pairs1_any l[k] _ wr P Rx).mono ?_
      rintro e w5 ⟨rfl, B5⟩
      clear k0 k1 k2 k3 k4 k5 k6 k7 k8 k9 k10
      clear rx Rx
      have L1 := L1.keeps hP (by omega) B5
      have BB := BB.trans (B5.mono (by omega))
      have hN := Nat.le_trans hN B5.size
      obtain ⟨z, hz⟩ : ∃ z, Hid ((fun y : Dat => y.k != 8) l[k] = z) := ⟨_, Lib.hid rfl⟩
      have hz1 : (l[k].k != 8) = z := hz.out
      rw [hz1]
      clear hz1
      cases z with
      | true =>
        have hta := find_hit (q := (fun y : Dat => y.k != 8)) hk hno.out hz.out
        replace hta := Lib.hid hta
        go_wp2_with fail
        go_ret
        try rw [hn]
        rw [hta.out]
        exact ⟨rfl, BB⟩
      | false =>
        go_upto_region 6 with fail
        go_wp2_with fail
        go_roundg (l.length - (k + 1))
        case measure => omega
        case rel => exact ⟨k + 1, by simp, by omega, L1, BB, hN, fun i hi h => by
          by_cases e : i = k
          · subst e; exact hz.out
          · exact hno.out i hi (by omega)⟩
    · have hkz : ¬ (k : Int) < (l.length : Int) := by omega
      have hta := find_none (q := (fun y : Dat => y.k != 8)) (fun i hi => hno.out i hi (by omega))
      replace hta := Lib.hid hta
      go_wp2_with fail
      go_ret
      try rw [hn]
      rw [hta.out]
      exact ⟨rfl, BB⟩

/-- are all pairs? -/
def pairsB (l : List Dat) : Bool := l.all fun y => y.k == 8
theorem pairs_find (l : List Dat) : decide (0 ≤ findI (fun y : Dat => y.k != 8) l) = !pairsB l := by
  rcases find_cases (fun y : Dat => y.k != 8) l with ⟨h, h2⟩ | ⟨k, hk, h, _, h2⟩
  · have : pairsB l = true := List.all_eq_true.2 fun y hy => by have := h2 y hy; simpa using this
    rw [h, this]; rfl
  · have : pairsB l = false := List.all_eq_false.2 ⟨l[k], List.getElem_mem hk, by simpa using h2⟩
    rw [h, this]
    exact decide_eq_true (by omega)
set_option maxRecDepth 100000 in
theorem contains_p (A : Option Addr) (c : Nat) (l : List Dat) (w : World) (P : Nat → Prop) (hP : ∀ b, P b → b < w.heap.size) (hL : RLs w P A c l) :
    Calls Tryz.prog 43 #[.slice A l.length c, .func (.func 44) #[] #[]] w fun e w' => e = .returned (.bool (!pairsB l)) ∧ Below w.heap.size w w' := by
  go_enter Tryz.func43, Tryz.ntmps43
  go_wp2_with fail
  refine (index_p A c l w P hP hL).mono ?_
  rintro e w5 ⟨rfl, B5⟩
  have hpf := pairs_find l
  generalize findI (fun y : Dat => y.k != 8) l = z at *
  replace hpf := Lib.hid hpf
  go_wp2_with fail
  go_ret
  refine ⟨?_, B5⟩
  show Ending.returned (.bool (decide (0 ≤ z))) = _
  rw [hpf.out]
set_option maxRecDepth 100000 in
theorem lpairs_any (A : Option Addr) (c : Nat) (l : List Dat) (w : World) (P : Nat → Prop) (hP : ∀ b, P b → b < w.heap.size) (hL : RLs w P A c l) :
    Calls Tryz.prog 25 #[.slice A l.length c] w fun e w' => e = .returned (.bool (pairsB l)) ∧ Below w.heap.size w w' := by
  go_enter Tryz.func25, Tryz.ntmps25
  go_wp2_with fail
  refine (contains_p A c l w P hP hL).mono ?_
  rintro e w5 ⟨rfl, B5⟩
  go_wp2_with fail
  go_ret
  exact ⟨by simp, B5⟩

theorem pairs_all {l : List Dat} (h : ∀ i (hi : i < l.length), l[i].k = 8) : pairsB l = true := all_of fun i hi => by simpa using h i hi
theorem pairs_bad {l : List Dat} {i : Nat} (hi : i < l.length) (h : ¬ l[i].k = 8) : pairsB l = false := List.all_eq_false.2 ⟨l[i], List.getElem_mem hi, by simpa using h⟩
set_option maxRecDepth 100000 in
set_option maxHeartbeats 8000000 in
theorem rpairs_any (A : Option Addr) (c : Nat) (l : List Dat) (w : World) (P : Nat → Prop) (hL : RLs w P A c l) :
    Calls Tryz.prog 26 #[.slice A l.length c] w fun e w' => e = .returned (.bool (pairsB l)) ∧ Below w.heap.size w w' := by
  have hl1 := hL.2.1
  go_enter Tryz.func26, Tryz.ntmps26
  go_upto_region 2 with fail
  have B0 := Below.refl w.heap.size w
  go_loopg [3] l.length (fun gk s3 wx => ∃ k : Nat, s3 = .int .i64 (k : Int) ∧ k + gk = l.length ∧ w = wx ∧ ∀ i (hi : i < l.length), i < k → l[i].k = 8)
  case atStart => exact ⟨0, rfl, by omega, rfl, fun i _ h => by omega⟩
  case round =>
    obtain ⟨k, rfl, hgk, rfl, hno⟩ := hrel
    replace hno := Lib.hid hno
    by_cases hk : k < l.length
    · obtain ⟨b, off, rfl, hPb, cs, cl, co, Rx, rx⟩ := hL.at_ hk
      obtain ⟨y1, y2, y3, y4, y5, y6, y7, y8, y9, y10, rfl, -⟩ := Rx.head
      have hkz : (k : Int) < (l.length : Int) := by omega
      have k0 := rx 0 _ rfl
      simp only [Nat.add_zero] at k0
      clear rx Rx co cl
      by_cases h8 : l[k].k = 8
      · have hb : (l[k].k != 8) = false := by simpa using h8
        have h8 := Lib.hid h8
        generalize hkk : l[k].k = kk at *
        replace hkk := Lib.hid hkk
        go_upto_region 3 with fail
        go_wp2_with fail
        go_roundg (l.length - (k + 1))
        case measure => omega
        case rel => exact ⟨k + 1, by simp, by omega, rfl, fun i hi h => by
          by_cases e : i = k
          · subst e; rw [hkk.out]; exact h8.out
          · exact hno.out i hi (by omega)⟩
      · have hb : (l[k].k != 8) = true := by simpa using h8
        have hta := pairs_bad hk h8
        replace hta := Lib.hid hta
        clear h8
        generalize l[k].k = kk at *
        go_wp2_with fail
        go_ret
        rw [hta.out]
        exact ⟨rfl, B0⟩
    · have hkz : ¬ (k : Int) < (l.length : Int) := by omega
      have hta := pairs_all (fun i hi => hno.out i hi (by omega))
      replace hta := Lib.hid hta
      go_wp2_with fail
      go_ret
      rw [hta.out]
      exact ⟨rfl, B0⟩

end Go.Proofs.YtilhnjecnhpmlaaGreatDoor
