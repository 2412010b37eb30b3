/- Walks: number of exact's reader. -/
import Derived.Test.YtbgggepdlkbpoaaGreatDoorGK
namespace Go.Proofs.YtbgggepdlkbpoaaGreatDoor
open Go.RowKit

section
variable {isD : UInt8 → Bool} {rd : List UInt8 → List Nat × Int} {mk : Bool → List Nat → List Nat → Rw} {zz re im : Rw} {s s1 s2 s3 s4 : List UInt8} {w w2 w4 : Int} {neg neg2 sg ok ok3 : Bool}
theorem num_1 (h : sgnP s = (neg, true, s1)) (hu : unitB s1 = true) : numP isD rd mk zz s w = (zz, mk neg [1] [1], true, w) := by
  unfold numP; rw [h]; dsimp only; rw [if_pos ⟨rfl, hu⟩]
theorem num_2 (h : sgnP s = (neg, sg, s1)) (hu : ¬ (sg = true ∧ unitB s1 = true)) (hf : fracP isD rd mk neg s1 w = (re, ok, s2, w2)) (h2 : ok = false ∨ s2 = []) : numP isD rd mk zz s w = (re, zz, ok, w2) := by
  unfold numP; rw [h]; dsimp only; rw [if_neg hu, hf]; dsimp only; rw [if_pos h2]
theorem num_3 (h : sgnP s = (neg, sg, s1)) (hu : ¬ (sg = true ∧ unitB s1 = true)) (hf : fracP isD rd mk neg s1 w = (re, ok, s2, w2)) (h2 : ¬ (ok = false ∨ s2 = [])) (h3 : sg = true ∧ unitB s2 = true) : numP isD rd mk zz s w = (zz, re, true, w2) := by
  unfold numP; rw [h]; dsimp only; rw [if_neg hu, hf]; dsimp only; rw [if_neg h2, if_pos h3]
theorem num_4 (h : sgnP s = (neg, sg, s1)) (hu : ¬ (sg = true ∧ unitB s1 = true)) (hf : fracP isD rd mk neg s1 w = (re, ok, s2, w2)) (h2 : ¬ (ok = false ∨ s2 = [])) (h3 : ¬ (sg = true ∧ unitB s2 = true)) (h4 : sgnP s2 = (neg2, false, s3)) :
    numP isD rd mk zz s w = (zz, zz, false, w2) := by
  unfold numP; rw [h]; dsimp only; rw [if_neg hu, hf]; dsimp only; rw [if_neg h2, if_neg h3, h4]; dsimp only; rw [if_pos rfl]
theorem num_5 (h : sgnP s = (neg, sg, s1)) (hu : ¬ (sg = true ∧ unitB s1 = true)) (hf : fracP isD rd mk neg s1 w = (re, ok, s2, w2)) (h2 : ¬ (ok = false ∨ s2 = [])) (h3 : ¬ (sg = true ∧ unitB s2 = true)) (h4 : sgnP s2 = (neg2, true, s3)) (h5 : unitB s3 = true) :
    numP isD rd mk zz s w = (re, mk neg2 [1] [1], true, w2) := by
  unfold numP; rw [h]; dsimp only; rw [if_neg hu, hf]; dsimp only; rw [if_neg h2, if_neg h3, h4]; dsimp only; rw [if_neg (by simp), if_pos h5]
theorem num_6 (h : sgnP s = (neg, sg, s1)) (hu : ¬ (sg = true ∧ unitB s1 = true)) (hf : fracP isD rd mk neg s1 w = (re, ok, s2, w2)) (h2 : ¬ (ok = false ∨ s2 = [])) (h3 : ¬ (sg = true ∧ unitB s2 = true)) (h4 : sgnP s2 = (neg2, true, s3)) (h5 : ¬ unitB s3 = true)
    (hf2 : fracP isD rd mk neg2 s3 w2 = (im, ok3, s4, w4)) : numP isD rd mk zz s w = (re, im, ok3 && unitB s4, w4) := by
  unfold numP; rw [h]; dsimp only; rw [if_neg hu, hf]; dsimp only; rw [if_neg h2, if_neg h3, h4]; dsimp only; rw [if_neg (by simp), if_neg h5, hf2]
end
/-- an answer: a fraction as it came, of the call's own -/
def RetRw (w : World) (x : Rw) (e : Ending) (w' : World) : Prop := ∃ A c D d, e = .returned (.agg #[.bool x.s, .slice A x.a.length c, .slice D x.b.length d]) ∧ OW w' w.heap.size A c x.a ∧ OW w' w.heap.size D d x.b ∧ Below w.heap.size w w'
theorem whole_rw (neg : Bool) (A : Option Addr) (c n m : Nat) (w : World) (hm : m = (digs n).length) (hl : (digs n).length ≤ 15000) (ha : RW w w.heap.size A c (digs n)) :
    Calls Tryz.prog 46 #[.bool neg, .slice A m c] w (RetRw w (mkr neg (digs n) [1])) := by
  have h := whole_any neg A c m (digs n) w hm ha (Nrm_digs n) hl
  have hq : mkr neg (digs n) [1] = rwq ((sgn neg (val (digs n)) : Int) : Rat) := by unfold mkr; rw [whole_val]
  rw [hq]
  exact h
theorem whole_zero (w : World) : Calls Tryz.prog 46 #[.bool false, .slice none 0 0] w (RetRw w (rwq 0)) := by
  have h := whole_rw false none 0 0 0 w (by rw [digs_zero]; rfl) (by rw [digs_zero]; simp) (by rw [digs_zero]; exact RW.nil _ _ _ _)
  have e : mkr false (digs 0) [1] = rwq 0 := by
    unfold mkr
    rw [whole_val, sgn_false, val_digs]
    rfl
  rwa [e] at h
theorem whole_one (neg : Bool) (w : World) : Calls Tryz.prog 46 #[.bool neg, .slice (some ⟨w.heap.size, 0, none⟩) 1 1] (w.alloc (.cells #[.int .u32 (1 : Int)] 55)) (RetRw (w.alloc (.cells #[.int .u32 (1 : Int)] 55)) (mkr neg [1] [1])) := by
  have h := whole_rw neg (some ⟨w.heap.size, 0, none⟩) 1 1 1 (w.alloc (.cells #[.int .u32 (1 : Int)] 55)) (by rw [digs_one1]; rfl) (by rw [digs_one1]; simp) (by rw [digs_one1]; exact (RW.one w 55 (show 1 < 4294967296 by omega)).more (by simp))
  rwa [digs_one1] at h
/-- what number gives, and leaves in the reader -/
def RetNm (w : World) (g r : Nat) (x : Rw × Rw × Bool × Int) (e : Ending) (w' : World) : Prop :=
  ∃ A1 c1 D1 d1 A2 c2 D2 d2 s', e = .returned (.tuple #[.agg #[.bool x.1.s, .slice A1 x.1.a.length c1, .slice D1 x.1.b.length d1], .agg #[.bool x.2.1.s, .slice A2 x.2.1.a.length c2, .slice D2 x.2.1.b.length d2], .bool x.2.2.1]) ∧
    OW w' w.heap.size A1 c1 x.1.a ∧ OW w' w.heap.size D1 d1 x.1.b ∧ OW w' w.heap.size A2 c2 x.2.1.a ∧ OW w' w.heap.size D2 d2 x.2.1.b ∧ SB w' g [.string s', .int .i64 (r : Int), .int .i64 x.2.2.2] ∧ FarW g w w'
theorem SB.dr {w : World} {b : Nat} {vs : List Value} (h : SB w b vs) : SB w.drew b vs := h
theorem OW.dr {w : World} {base : Nat} {A : Option Addr} {c : Nat} {l : List Nat} (h : OW w base A c l) : OW w.drew base A c l := h.drewN 1
theorem FarW.dr {g : Nat} {w w1 : World} (h : FarW g w w1) : FarW g w w1.drew := h.dN 1
theorem emp_eq (s : ByteArray) : s.toList.isEmpty = decide (s.data.toList = []) := by
  rw [Lib.toList_data]
  cases s.data.toList <;> simp
theorem OW.wr3b {w : World} {base b : Nat} {A : Option Addr} {c : Nat} {l : List Nat} (h : OW w base A c l) (hb : b < base) (x y z : Value) : OW (wr3 w b x y z) base A c l := h.put3 hb x y z
theorem FarW.wr3 {g b : Nat} {w w1 : World} (h : FarW g w w1) (hb : w.heap.size ≤ b) (hg : g ≤ w.heap.size) (x y z : Value) : FarW g w (wr3 w1 b x y z) := ((h.far hb hg 0 x).far hb hg 1 y).far hb hg 2 z

theorem fracP_len {r : Nat} (neg : Bool) (l : List UInt8) (e : Int) : (fracP (isDr r) (rdr r) mkr neg l e).2.2.1.length ≤ l.length := by
  have h1 := (digP_dig (r := r) l e).2
  unfold fracP
  split
  · have h2 := (digP_dig (r := r) (digP (isDr r) (rdr r) l e).2.2.1.tail (digP (isDr r) (rdr r) l e).2.2.2).2
    rw [List.length_tail] at h2
    split <;> (dsimp only; omega)
  · exact h1
theorem sgnP_len (l : List UInt8) : (sgnP l).2.2.length ≤ l.length := by
  cases l with
  | nil => exact Nat.le_refl _
  | cons c t =>
    show (if c = 43 ∨ c = 45 then (c == 45, true, t) else (false, false, c :: t)).2.2.length ≤ _
    split
    · simp
    · exact Nat.le_refl _

set_option maxRecDepth 100000 in
set_option maxHeartbeats 8000000 in
theorem number_any (g : Nat) (s : ByteArray) (r : Nat) (e : Int) (w : World) (hs : s.size ≤ 140737488351232) (hr1 : 2 ≤ r) (hr2 : r ≤ 36) (S : SB w g [.string s, .int .i64 (r : Int), .int .i64 e]) :
    Calls Tryz.prog 37 #[.pointer (some ⟨g, 0, none⟩)] w (RetNm w g r (numP (isDr r) (rdr r) mkr (rwq 0) s.data.toList e)) := by
  have hgw := S.lt
  have X2 := (SB.new w [.bool false, .slice none 0 0, .slice none 0 0] 24).nx (bal (w.alloc (.cells #[.bool false, .slice none 0 0, .slice none 0 0] 24)) (.cells #[.bool false, .slice none 0 0, .slice none 0 0] 24))
  have X3 := SB.new (w.alloc (.cells #[.bool false, .slice none 0 0, .slice none 0 0] 24)) [.bool false, .slice none 0 0, .slice none 0 0] 24
  have z1 : (w.alloc (.cells #[.bool false, .slice none 0 0, .slice none 0 0] 24)).heap.size = w.heap.size + 1 := by simp
  rw [z1] at X3
  have Ba := bal w (.cells #[.bool false, .slice none 0 0, .slice none 0 0] 24)
  have Bb := bal (w.alloc (.cells #[.bool false, .slice none 0 0, .slice none 0 0] 24)) (.cells #[.bool false, .slice none 0 0, .slice none 0 0] 24)
  replace S := (S.nx Ba).nx Bb
  have F := FarW.of (bt Ba Bb) (Nat.le_of_lt hgw)
  have hzs : ((w.alloc (.cells #[.bool false, .slice none 0 0, .slice none 0 0] 24)).alloc (.cells #[.bool false, .slice none 0 0, .slice none 0 0] 24)).heap.size = w.heap.size + 2 := by simp
  clear Ba Bb z1
  have hz := whole_zero ((w.alloc (.cells #[.bool false, .slice none 0 0, .slice none 0 0] 24)).alloc (.cells #[.bool false, .slice none 0 0, .slice none 0 0] 24))
  obtain ⟨z, hzz⟩ : ∃ z, rwq 0 = z := ⟨_, rfl⟩
  rw [hzz] at hz ⊢
  clear hzz
  go_enter Tryz.func37, Tryz.ntmps37
  go_wp2_with fail
  refine hz.mono ?_; rintro e' w3 ⟨Az, cz, Dz, dz, rfl, Oz1, Oz2, B3⟩
  clear hz
  replace X2 := X2.nx B3
  replace X3 := X3.nx B3
  replace S := S.nx B3
  replace F := F.nx B3 (by have := S.lt; have := hgw; rw [hzs]; omega)
  rw [hzs] at Oz1 Oz2
  clear B3 hzs
  have X5 := SB.new w3 [.bool z.s, .slice Az z.a.length cz, .slice Dz z.b.length dz] 24
  have Bd := bal w3 (.cells #[.bool z.s, .slice Az z.a.length cz, .slice Dz z.b.length dz] 24)
  obtain ⟨g5, hg5⟩ : ∃ g5, w3.heap.size = g5 := ⟨_, rfl⟩
  have hg52 : w.heap.size + 2 ≤ g5 := by have := X3.lt; omega
  replace X2 := X2.nx Bd
  replace X3 := X3.nx Bd
  replace S := S.nx Bd
  replace F := F.nx Bd (by have := X2.lt; omega)
  replace Oz1 := Oz1.below Bd (Nat.le_refl _)
  replace Oz2 := Oz2.below Bd (Nat.le_refl _)
  clear Bd
  obtain ⟨w4, hw4⟩ : ∃ w4, w4 = w3.alloc (.cells #[.bool z.s, .slice Az z.a.length cz, .slice Dz z.b.length dz] 24) := ⟨_, rfl⟩
  rw [← hw4] at X2 X3 X5 S F Oz1 Oz2
  go_wp2_with fail
  rw [← hw4]
  rw [hg5] at X5
  clear hw4 hg5
  have h1 := sign_any g s _ _ w4 S
  obtain ⟨x1, hx1⟩ : ∃ x1, sgnP s.data.toList = x1 := ⟨_, rfl⟩
  have hs1 := (sgnP_len s.data.toList)
  rw [hx1] at h1 hs1
  obtain ⟨neg, sg, l1⟩ := x1
  dsimp only at h1 hs1
  have hss := s_len s
  refine h1.mono ?_; rintro e' w5 ⟨rfl, s1, hl1, S', F1⟩
  clear h1 S
  have S := S'
  clear S'
  replace X2 := X2.farW F1 (by omega)
  replace X3 := X3.farW F1 (by omega)
  replace X5 := X5.farW F1 (by omega)
  replace Oz1 := Oz1.farW F1 (by omega)
  replace Oz2 := Oz2.farW F1 (by omega)
  replace F := F.trans F1
  clear F1
  dsimp only at hl1
  have hl1z : s1.size ≤ 140737488351232 := by have := s_len s1; rw [hl1] at this; omega
  clear hs1 hss
  cases sg
  · have hun := Lib.hid trivial
    go_wp2_with fail
    have hf := fraction_any g s1 r e neg w5 hl1z hr1 hr2 S
    rw [hl1] at hf
    obtain ⟨x2, hx2⟩ : ∃ x2, fracP (isDr r) (rdr r) mkr neg l1 e = x2 := ⟨_, rfl⟩
    have hfl := fracP_len (r := r) neg l1 e
    rw [hx2] at hf hfl
    obtain ⟨x, ok, l2, e2⟩ := x2
    dsimp only at hf hfl
    have hzb : w.heap.size + 2 ≤ w5.heap.size := by have := X3.lt; omega
    refine hf.mono ?_; rintro e' w6 ⟨Ar, cr, Dr, dr, s2, rfl, Ox1, Ox2, hl2, S', F1⟩
    dsimp only at Ox1 Ox2 hl2 S'
    clear hf S
    have S := S'
    clear S'
    replace X2 := X2.farW F1 (by omega)
    replace X3 := X3.farW F1 (by omega)
    replace X5 := X5.farW F1 (by omega)
    replace Oz1 := Oz1.farW F1 (by omega)
    replace Oz2 := Oz2.farW F1 (by omega)
    replace F := F.trans F1
    clear F1
    replace Ox1 := Ox1.base_le hzb
    replace Ox2 := Ox2.base_le hzb
    clear hzb
    have hl2z : s2.size ≤ 140737488351232 := by have := s_len s2; have h1 := s_len s1; rw [hl2] at this; rw [hl1] at h1; omega
    clear hfl
    clear hl1 hl1z
    have hem := emp_eq s2
    rw [hl2] at hem
    cases ok
    · clear hem
      have ks := S.cell 0
      have m0 := X2.cell 0
      have m1 := X2.cell 1
      have m2 := X2.cell 2
      have mf0 := X2.frozen 0
      have mf1 := X2.frozen 1
      have mf2 := X2.frozen 2
      replace X2 := X2.put3 (.bool x.s) (.slice Ar x.a.length cr) (.slice Dr x.b.length dr)
      replace X3 := X3.wr3 (r := w.heap.size) (by omega) (.bool x.s) (.slice Ar x.a.length cr) (.slice Dr x.b.length dr)
      replace X5 := X5.wr3 (r := w.heap.size) (by omega) (.bool x.s) (.slice Ar x.a.length cr) (.slice Dr x.b.length dr)
      replace S := S.wr3 (r := w.heap.size) (by omega) (.bool x.s) (.slice Ar x.a.length cr) (.slice Dr x.b.length dr)
      replace Oz1 := Oz1.wr3b (b := w.heap.size) (by omega) (.bool x.s) (.slice Ar x.a.length cr) (.slice Dr x.b.length dr)
      replace Oz2 := Oz2.wr3b (b := w.heap.size) (by omega) (.bool x.s) (.slice Ar x.a.length cr) (.slice Dr x.b.length dr)
      replace Ox1 := Ox1.wr3b (b := w.heap.size) (by omega) (.bool x.s) (.slice Ar x.a.length cr) (.slice Dr x.b.length dr)
      replace Ox2 := Ox2.wr3b (b := w.heap.size) (by omega) (.bool x.s) (.slice Ar x.a.length cr) (.slice Dr x.b.length dr)
      replace F := F.wr3 (b := w.heap.size) (by omega) (Nat.le_of_lt hgw) (.bool x.s) (.slice Ar x.a.length cr) (.slice Dr x.b.length dr)
      obtain ⟨w16, hw16⟩ : ∃ w16, w16 = Proofs.YtbgggepdlkbpoaaGreatDoor.wr3 w6 w.heap.size (.bool x.s) (.slice Ar x.a.length cr) (.slice Dr x.b.length dr) := ⟨_, rfl⟩
      rw [← hw16] at X2 X3 X5 S F Oz1 Oz2 Ox1 Ox2
      go_wp2_with fail
      unfold Proofs.YtbgggepdlkbpoaaGreatDoor.wr3 at hw16
      rw [← hw16]
      clear hw16
      clear m0 mf0 m1 mf1 m2 mf2
      clear ks
      have HE := Lib.hid (num_2 (isD := isDr r) (rd := rdr r) (mk := mkr) (zz := z) (w := e) hx1 (by simp) hx2 (.inl rfl))
      replace X2 := X2.dr
      replace X3 := X3.dr
      replace X5 := X5.dr
      replace S := S.dr
      replace F := F.dr
      replace Oz1 := Oz1.dr
      replace Oz2 := Oz2.dr
      replace Ox1 := Ox1.dr
      replace Ox2 := Ox2.dr
      refine AnyW.regionQ (fun _ => false) 6 (fun w' => w'.cell? ⟨w.heap.size, 0, none⟩ = some (.bool x.s) ∧ w'.cell? ⟨w.heap.size, 1, none⟩ = some (.slice Ar x.a.length cr) ∧ w'.cell? ⟨w.heap.size, 2, none⟩ = some (.slice Dr x.b.length dr) ∧ w'.cell? ⟨g5, 0, none⟩ = some (.bool z.s) ∧ w'.cell? ⟨g5, 1, none⟩ = some (.slice Az z.a.length cz) ∧ w'.cell? ⟨g5, 2, none⟩ = some (.slice Dz z.b.length dz)) rfl (by kernel_rfl) (by kernel_rfl) (by (repeat (with_reducible (first | refine quiet_then ?_ | refine quiet_block ?_))); exact quiet_body) ⟨X2.cell 0, X2.cell 1, X2.cell 2, X5.cell 0, X5.cell 1, X5.cell 2⟩ (fun Q' hQK hq hns hHeld => ?_)
      generalize w16.drew = wd at *
      refine AnyW.next (i := 0) (v := ?_) hq hns hHeld rfl rfl (by kernel_rfl) (Or.inl ⟨by rfl, ?_⟩) ?_
      rotate_left
      · intro w' hSw; (try dsimp only at hSw); go_simp <;> with_reducible rfl
      try simp only [List.setIfInBounds_toArray, List.set_cons_zero, List.set_cons_succ]
      refine AnyW.next (i := 1) (v := ?_) hq hns hHeld rfl rfl (by kernel_rfl) (Or.inl ⟨by rfl, ?_⟩) ?_
      rotate_left
      · intro w' hSw; (try dsimp only at hSw); go_simp <;> with_reducible rfl
      try simp only [List.setIfInBounds_toArray, List.set_cons_zero, List.set_cons_succ]
      refine AnyW.nextT (i := 2) (v := ?_) hq hns (.inr hHeld) rfl rfl (by kernel_rfl) (Or.inl ⟨by rfl, ?_⟩) ?_
      rotate_left
      · intro w' _; go_simp <;> with_reducible rfl
      try simp only [List.setIfInBounds_toArray, List.set_cons_zero, List.set_cons_succ]
      have m0 := X2.cell 0
      have m1 := X2.cell 1
      have m2 := X2.cell 2
      have mf0 := X2.frozen 0
      have mf1 := X2.frozen 1
      have mf2 := X2.frozen 2
      refine AnyW.one 3 (by kernel_rfl) rfl (fun K' hK => ?_)
      go_simp
      replace X2 := X2.put3 (.bool x.s) (.slice Ar x.a.length cr) (.slice Dr x.b.length dr)
      replace X3 := X3.wr3 (r := w.heap.size) (by omega) (.bool x.s) (.slice Ar x.a.length cr) (.slice Dr x.b.length dr)
      replace X5 := X5.wr3 (r := w.heap.size) (by omega) (.bool x.s) (.slice Ar x.a.length cr) (.slice Dr x.b.length dr)
      replace S := S.wr3 (r := w.heap.size) (by omega) (.bool x.s) (.slice Ar x.a.length cr) (.slice Dr x.b.length dr)
      replace Oz1 := Oz1.wr3b (b := w.heap.size) (by omega) (.bool x.s) (.slice Ar x.a.length cr) (.slice Dr x.b.length dr)
      replace Oz2 := Oz2.wr3b (b := w.heap.size) (by omega) (.bool x.s) (.slice Ar x.a.length cr) (.slice Dr x.b.length dr)
      replace Ox1 := Ox1.wr3b (b := w.heap.size) (by omega) (.bool x.s) (.slice Ar x.a.length cr) (.slice Dr x.b.length dr)
      replace Ox2 := Ox2.wr3b (b := w.heap.size) (by omega) (.bool x.s) (.slice Ar x.a.length cr) (.slice Dr x.b.length dr)
      replace F := F.wr3 (b := w.heap.size) (by omega) (Nat.le_of_lt hgw) (.bool x.s) (.slice Ar x.a.length cr) (.slice Dr x.b.length dr)
      obtain ⟨w17, hw17⟩ : ∃ w17, w17 = Proofs.YtbgggepdlkbpoaaGreatDoor.wr3 wd w.heap.size (.bool x.s) (.slice Ar x.a.length cr) (.slice Dr x.b.length dr) := ⟨_, rfl⟩
      rw [← hw17] at X2 X3 X5 S F Oz1 Oz2 Ox1 Ox2
      unfold Proofs.YtbgggepdlkbpoaaGreatDoor.wr3 at hw17
      rw [← hw17]
      clear hw17
      clear m0 mf0 m1 mf1 m2 mf2
      refine hK.out _ _ (.inr ⟨X2.cell 0, X2.cell 1, X2.cell 2, X5.cell 0, X5.cell 1, X5.cell 2⟩) (fun hG => ?_)
      have hHeld := hG.resolve_left (notGone.spec (by rfl))
      clear hK K' hG
      try simp only [List.setIfInBounds_toArray, List.set_cons_zero, List.set_cons_succ]
      have m0 := X3.cell 0
      have m1 := X3.cell 1
      have m2 := X3.cell 2
      have mf0 := X3.frozen 0
      have mf1 := X3.frozen 1
      have mf2 := X3.frozen 2
      refine AnyW.one 4 (by kernel_rfl) rfl (fun K' hK => ?_)
      go_simp
      replace X2 := X2.wr3 (r := (w.heap.size + 1)) (by omega) (.bool z.s) (.slice Az z.a.length cz) (.slice Dz z.b.length dz)
      replace X3 := X3.put3 (.bool z.s) (.slice Az z.a.length cz) (.slice Dz z.b.length dz)
      replace X5 := X5.wr3 (r := (w.heap.size + 1)) (by omega) (.bool z.s) (.slice Az z.a.length cz) (.slice Dz z.b.length dz)
      replace S := S.wr3 (r := (w.heap.size + 1)) (by omega) (.bool z.s) (.slice Az z.a.length cz) (.slice Dz z.b.length dz)
      replace Oz1 := Oz1.wr3b (b := (w.heap.size + 1)) (by omega) (.bool z.s) (.slice Az z.a.length cz) (.slice Dz z.b.length dz)
      replace Oz2 := Oz2.wr3b (b := (w.heap.size + 1)) (by omega) (.bool z.s) (.slice Az z.a.length cz) (.slice Dz z.b.length dz)
      replace Ox1 := Ox1.wr3b (b := (w.heap.size + 1)) (by omega) (.bool z.s) (.slice Az z.a.length cz) (.slice Dz z.b.length dz)
      replace Ox2 := Ox2.wr3b (b := (w.heap.size + 1)) (by omega) (.bool z.s) (.slice Az z.a.length cz) (.slice Dz z.b.length dz)
      replace F := F.wr3 (b := (w.heap.size + 1)) (by omega) (Nat.le_of_lt hgw) (.bool z.s) (.slice Az z.a.length cz) (.slice Dz z.b.length dz)
      obtain ⟨w18, hw18⟩ : ∃ w18, w18 = Proofs.YtbgggepdlkbpoaaGreatDoor.wr3 w17 (w.heap.size + 1) (.bool z.s) (.slice Az z.a.length cz) (.slice Dz z.b.length dz) := ⟨_, rfl⟩
      rw [← hw18] at X2 X3 X5 S F Oz1 Oz2 Ox1 Ox2
      unfold Proofs.YtbgggepdlkbpoaaGreatDoor.wr3 at hw18
      rw [← hw18]
      clear hw18
      clear m0 mf0 m1 mf1 m2 mf2
      refine hK.out _ _ (.inr ⟨X2.cell 0, X2.cell 1, X2.cell 2, X5.cell 0, X5.cell 1, X5.cell 2⟩) (fun hG => ?_)
      have hHeld := hG.resolve_left (notGone.spec (by rfl))
      clear hK K' hG
      try simp only [List.setIfInBounds_toArray, List.set_cons_zero, List.set_cons_succ]
      refine AnyW.nextT (i := 5) (v := ?_) hq hns (.inr hHeld) rfl rfl (by kernel_rfl) (Or.inl ⟨by rfl, ?_⟩) ?_
      rotate_left
      · intro w' _; go_simp <;> with_reducible rfl
      try simp only [List.setIfInBounds_toArray, List.set_cons_zero, List.set_cons_succ]
      refine AnyW.done (by kernel_rfl) (hQK.out _ _ ?_)
      clear hQK hq hns hHeld
      clear hr1 hr2 hs
      have r0 := X2.cell 0
      have r1 := X2.cell 1
      have r2 := X2.cell 2
      have r3 := X3.cell 0
      have r4 := X3.cell 1
      have r5 := X3.cell 2
      go_wp2_with fail
      refine bodyPost_ret (v := .tuple #[.agg #[.bool x.s, .slice Ar x.a.length cr, .slice Dr x.b.length dr], .agg #[.bool z.s, .slice Az z.a.length cz, .slice Dz z.b.length dz], .bool false]) (by simp [results, r0, r1, r2, r3, r4, r5, go_sem]) rfl ?_
      rw [HE.out]
      exact ⟨Ar, cr, Dr, dr, Az, cz, Dz, dz, _, rfl, Ox1.base_le (by omega), Ox2.base_le (by omega), Oz1.base_le (by omega), Oz2.base_le (by omega), S, F⟩
    · by_cases hn : l2 = []
      · rw [decide_eq_true hn] at hem
        have ks := S.cell 0
        have m0 := X2.cell 0
        have m1 := X2.cell 1
        have m2 := X2.cell 2
        have mf0 := X2.frozen 0
        have mf1 := X2.frozen 1
        have mf2 := X2.frozen 2
        replace X2 := X2.put3 (.bool x.s) (.slice Ar x.a.length cr) (.slice Dr x.b.length dr)
        replace X3 := X3.wr3 (r := w.heap.size) (by omega) (.bool x.s) (.slice Ar x.a.length cr) (.slice Dr x.b.length dr)
        replace X5 := X5.wr3 (r := w.heap.size) (by omega) (.bool x.s) (.slice Ar x.a.length cr) (.slice Dr x.b.length dr)
        replace S := S.wr3 (r := w.heap.size) (by omega) (.bool x.s) (.slice Ar x.a.length cr) (.slice Dr x.b.length dr)
        replace Oz1 := Oz1.wr3b (b := w.heap.size) (by omega) (.bool x.s) (.slice Ar x.a.length cr) (.slice Dr x.b.length dr)
        replace Oz2 := Oz2.wr3b (b := w.heap.size) (by omega) (.bool x.s) (.slice Ar x.a.length cr) (.slice Dr x.b.length dr)
        replace Ox1 := Ox1.wr3b (b := w.heap.size) (by omega) (.bool x.s) (.slice Ar x.a.length cr) (.slice Dr x.b.length dr)
        replace Ox2 := Ox2.wr3b (b := w.heap.size) (by omega) (.bool x.s) (.slice Ar x.a.length cr) (.slice Dr x.b.length dr)
        replace F := F.wr3 (b := w.heap.size) (by omega) (Nat.le_of_lt hgw) (.bool x.s) (.slice Ar x.a.length cr) (.slice Dr x.b.length dr)
        obtain ⟨w19, hw19⟩ : ∃ w19, w19 = Proofs.YtbgggepdlkbpoaaGreatDoor.wr3 w6 w.heap.size (.bool x.s) (.slice Ar x.a.length cr) (.slice Dr x.b.length dr) := ⟨_, rfl⟩
        rw [← hw19] at X2 X3 X5 S F Oz1 Oz2 Ox1 Ox2
        go_wp2_with fail
        unfold Proofs.YtbgggepdlkbpoaaGreatDoor.wr3 at hw19
        rw [← hw19]
        clear hw19
        clear m0 mf0 m1 mf1 m2 mf2
        clear ks
        clear hem
        have HE := Lib.hid (num_2 (isD := isDr r) (rd := rdr r) (mk := mkr) (zz := z) (w := e) hx1 (by simp) hx2 (.inr hn))
        replace X2 := X2.dr
        replace X3 := X3.dr
        replace X5 := X5.dr
        replace S := S.dr
        replace F := F.dr
        replace Oz1 := Oz1.dr
        replace Oz2 := Oz2.dr
        replace Ox1 := Ox1.dr
        replace Ox2 := Ox2.dr
        refine AnyW.regionQ (fun _ => false) 6 (fun w' => w'.cell? ⟨w.heap.size, 0, none⟩ = some (.bool x.s) ∧ w'.cell? ⟨w.heap.size, 1, none⟩ = some (.slice Ar x.a.length cr) ∧ w'.cell? ⟨w.heap.size, 2, none⟩ = some (.slice Dr x.b.length dr) ∧ w'.cell? ⟨g5, 0, none⟩ = some (.bool z.s) ∧ w'.cell? ⟨g5, 1, none⟩ = some (.slice Az z.a.length cz) ∧ w'.cell? ⟨g5, 2, none⟩ = some (.slice Dz z.b.length dz)) rfl (by kernel_rfl) (by kernel_rfl) (by (repeat (with_reducible (first | refine quiet_then ?_ | refine quiet_block ?_))); exact quiet_body) ⟨X2.cell 0, X2.cell 1, X2.cell 2, X5.cell 0, X5.cell 1, X5.cell 2⟩ (fun Q' hQK hq hns hHeld => ?_)
        generalize w19.drew = wd at *
        refine AnyW.next (i := 0) (v := ?_) hq hns hHeld rfl rfl (by kernel_rfl) (Or.inl ⟨by rfl, ?_⟩) ?_
        rotate_left
        · intro w' hSw; (try dsimp only at hSw); go_simp <;> with_reducible rfl
        try simp only [List.setIfInBounds_toArray, List.set_cons_zero, List.set_cons_succ]
        refine AnyW.next (i := 1) (v := ?_) hq hns hHeld rfl rfl (by kernel_rfl) (Or.inl ⟨by rfl, ?_⟩) ?_
        rotate_left
        · intro w' hSw; (try dsimp only at hSw); go_simp <;> with_reducible rfl
        try simp only [List.setIfInBounds_toArray, List.set_cons_zero, List.set_cons_succ]
        refine AnyW.nextT (i := 2) (v := ?_) hq hns (.inr hHeld) rfl rfl (by kernel_rfl) (Or.inl ⟨by rfl, ?_⟩) ?_
        rotate_left
        · intro w' _; go_simp <;> with_reducible rfl
        try simp only [List.setIfInBounds_toArray, List.set_cons_zero, List.set_cons_succ]
        have m0 := X2.cell 0
        have m1 := X2.cell 1
        have m2 := X2.cell 2
        have mf0 := X2.frozen 0
        have mf1 := X2.frozen 1
        have mf2 := X2.frozen 2
        refine AnyW.one 3 (by kernel_rfl) rfl (fun K' hK => ?_)
        go_simp
        replace X2 := X2.put3 (.bool x.s) (.slice Ar x.a.length cr) (.slice Dr x.b.length dr)
        replace X3 := X3.wr3 (r := w.heap.size) (by omega) (.bool x.s) (.slice Ar x.a.length cr) (.slice Dr x.b.length dr)
        replace X5 := X5.wr3 (r := w.heap.size) (by omega) (.bool x.s) (.slice Ar x.a.length cr) (.slice Dr x.b.length dr)
        replace S := S.wr3 (r := w.heap.size) (by omega) (.bool x.s) (.slice Ar x.a.length cr) (.slice Dr x.b.length dr)
        replace Oz1 := Oz1.wr3b (b := w.heap.size) (by omega) (.bool x.s) (.slice Ar x.a.length cr) (.slice Dr x.b.length dr)
        replace Oz2 := Oz2.wr3b (b := w.heap.size) (by omega) (.bool x.s) (.slice Ar x.a.length cr) (.slice Dr x.b.length dr)
        replace Ox1 := Ox1.wr3b (b := w.heap.size) (by omega) (.bool x.s) (.slice Ar x.a.length cr) (.slice Dr x.b.length dr)
        replace Ox2 := Ox2.wr3b (b := w.heap.size) (by omega) (.bool x.s) (.slice Ar x.a.length cr) (.slice Dr x.b.length dr)
        replace F := F.wr3 (b := w.heap.size) (by omega) (Nat.le_of_lt hgw) (.bool x.s) (.slice Ar x.a.length cr) (.slice Dr x.b.length dr)
        obtain ⟨w20, hw20⟩ : ∃ w20, w20 = Proofs.YtbgggepdlkbpoaaGreatDoor.wr3 wd w.heap.size (.bool x.s) (.slice Ar x.a.length cr) (.slice Dr x.b.length dr) := ⟨_, rfl⟩
        rw [← hw20] at X2 X3 X5 S F Oz1 Oz2 Ox1 Ox2
        unfold Proofs.YtbgggepdlkbpoaaGreatDoor.wr3 at hw20
        rw [← hw20]
        clear hw20
        clear m0 mf0 m1 mf1 m2 mf2
        refine hK.out _ _ (.inr ⟨X2.cell 0, X2.cell 1, X2.cell 2, X5.cell 0, X5.cell 1, X5.cell 2⟩) (fun hG => ?_)
        have hHeld := hG.resolve_left (notGone.spec (by rfl))
        clear hK K' hG
        try simp only [List.setIfInBounds_toArray, List.set_cons_zero, List.set_cons_succ]
        have m0 := X3.cell 0
        have m1 := X3.cell 1
        have m2 := X3.cell 2
        have mf0 := X3.frozen 0
        have mf1 := X3.frozen 1
        have mf2 := X3.frozen 2
        refine AnyW.one 4 (by kernel_rfl) rfl (fun K' hK => ?_)
        go_simp
        replace X2 := X2.wr3 (r := (w.heap.size + 1)) (by omega) (.bool z.s) (.slice Az z.a.length cz) (.slice Dz z.b.length dz)
        replace X3 := X3.put3 (.bool z.s) (.slice Az z.a.length cz) (.slice Dz z.b.length dz)
        replace X5 := X5.wr3 (r := (w.heap.size + 1)) (by omega) (.bool z.s) (.slice Az z.a.length cz) (.slice Dz z.b.length dz)
        replace S := S.wr3 (r := (w.heap.size + 1)) (by omega) (.bool z.s) (.slice Az z.a.length cz) (.slice Dz z.b.length dz)
        replace Oz1 := Oz1.wr3b (b := (w.heap.size + 1)) (by omega) (.bool z.s) (.slice Az z.a.length cz) (.slice Dz z.b.length dz)
        replace Oz2 := Oz2.wr3b (b := (w.heap.size + 1)) (by omega) (.bool z.s) (.slice Az z.a.length cz) (.slice Dz z.b.length dz)
        replace Ox1 := Ox1.wr3b (b := (w.heap.size + 1)) (by omega) (.bool z.s) (.slice Az z.a.length cz) (.slice Dz z.b.length dz)
        replace Ox2 := Ox2.wr3b (b := (w.heap.size + 1)) (by omega) (.bool z.s) (.slice Az z.a.length cz) (.slice Dz z.b.length dz)
        replace F := F.wr3 (b := (w.heap.size + 1)) (by omega) (Nat.le_of_lt hgw) (.bool z.s) (.slice Az z.a.length cz) (.slice Dz z.b.length dz)
        obtain ⟨w21, hw21⟩ : ∃ w21, w21 = Proofs.YtbgggepdlkbpoaaGreatDoor.wr3 w20 (w.heap.size + 1) (.bool z.s) (.slice Az z.a.length cz) (.slice Dz z.b.length dz) := ⟨_, rfl⟩
        rw [← hw21] at X2 X3 X5 S F Oz1 Oz2 Ox1 Ox2
        unfold Proofs.YtbgggepdlkbpoaaGreatDoor.wr3 at hw21
        rw [← hw21]
        clear hw21
        clear m0 mf0 m1 mf1 m2 mf2
        refine hK.out _ _ (.inr ⟨X2.cell 0, X2.cell 1, X2.cell 2, X5.cell 0, X5.cell 1, X5.cell 2⟩) (fun hG => ?_)
        have hHeld := hG.resolve_left (notGone.spec (by rfl))
        clear hK K' hG
        try simp only [List.setIfInBounds_toArray, List.set_cons_zero, List.set_cons_succ]
        refine AnyW.nextT (i := 5) (v := ?_) hq hns (.inr hHeld) rfl rfl (by kernel_rfl) (Or.inl ⟨by rfl, ?_⟩) ?_
        rotate_left
        · intro w' _; go_simp <;> with_reducible rfl
        try simp only [List.setIfInBounds_toArray, List.set_cons_zero, List.set_cons_succ]
        refine AnyW.done (by kernel_rfl) (hQK.out _ _ ?_)
        clear hQK hq hns hHeld
        clear hr1 hr2 hs
        have r0 := X2.cell 0
        have r1 := X2.cell 1
        have r2 := X2.cell 2
        have r3 := X3.cell 0
        have r4 := X3.cell 1
        have r5 := X3.cell 2
        go_wp2_with fail
        refine bodyPost_ret (v := .tuple #[.agg #[.bool x.s, .slice Ar x.a.length cr, .slice Dr x.b.length dr], .agg #[.bool z.s, .slice Az z.a.length cz, .slice Dz z.b.length dz], .bool true]) (by simp [results, r0, r1, r2, r3, r4, r5, go_sem]) rfl ?_
        rw [HE.out]
        exact ⟨Ar, cr, Dr, dr, Az, cz, Dz, dz, _, rfl, Ox1.base_le (by omega), Ox2.base_le (by omega), Oz1.base_le (by omega), Oz2.base_le (by omega), S, F⟩
      · rw [decide_eq_false hn] at hem
        have hn2 := Lib.hid hn
        have ks := S.cell 0
        have m0 := X2.cell 0
        have m1 := X2.cell 1
        have m2 := X2.cell 2
        have mf0 := X2.frozen 0
        have mf1 := X2.frozen 1
        have mf2 := X2.frozen 2
        replace X2 := X2.put3 (.bool x.s) (.slice Ar x.a.length cr) (.slice Dr x.b.length dr)
        replace X3 := X3.wr3 (r := w.heap.size) (by omega) (.bool x.s) (.slice Ar x.a.length cr) (.slice Dr x.b.length dr)
        replace X5 := X5.wr3 (r := w.heap.size) (by omega) (.bool x.s) (.slice Ar x.a.length cr) (.slice Dr x.b.length dr)
        replace S := S.wr3 (r := w.heap.size) (by omega) (.bool x.s) (.slice Ar x.a.length cr) (.slice Dr x.b.length dr)
        replace Oz1 := Oz1.wr3b (b := w.heap.size) (by omega) (.bool x.s) (.slice Ar x.a.length cr) (.slice Dr x.b.length dr)
        replace Oz2 := Oz2.wr3b (b := w.heap.size) (by omega) (.bool x.s) (.slice Ar x.a.length cr) (.slice Dr x.b.length dr)
        replace Ox1 := Ox1.wr3b (b := w.heap.size) (by omega) (.bool x.s) (.slice Ar x.a.length cr) (.slice Dr x.b.length dr)
        replace Ox2 := Ox2.wr3b (b := w.heap.size) (by omega) (.bool x.s) (.slice Ar x.a.length cr) (.slice Dr x.b.length dr)
        replace F := F.wr3 (b := w.heap.size) (by omega) (Nat.le_of_lt hgw) (.bool x.s) (.slice Ar x.a.length cr) (.slice Dr x.b.length dr)
        obtain ⟨w22, hw22⟩ : ∃ w22, w22 = Proofs.YtbgggepdlkbpoaaGreatDoor.wr3 w6 w.heap.size (.bool x.s) (.slice Ar x.a.length cr) (.slice Dr x.b.length dr) := ⟨_, rfl⟩
        rw [← hw22] at X2 X3 X5 S F Oz1 Oz2 Ox1 Ox2
        go_wp2_with fail
        unfold Proofs.YtbgggepdlkbpoaaGreatDoor.wr3 at hw22
        rw [← hw22]
        clear hw22
        clear m0 mf0 m1 mf1 m2 mf2
        clear ks
        clear hem hn
        have hun2 := Lib.hid trivial
        have h1 := sign_any g s2 _ _ w22 S
        obtain ⟨x1, hx3⟩ : ∃ x1, sgnP s2.data.toList = x1 := ⟨_, rfl⟩
        have hs3 := (sgnP_len s2.data.toList)
        rw [hx3] at h1 hs3
        rw [hl2] at hx3
        obtain ⟨neg2, sg2, l3⟩ := x1
        dsimp only at h1 hs3
        refine h1.mono ?_; rintro e' w8 ⟨rfl, s3, hl3, S', F1⟩
        clear h1 S
        have S := S'
        clear S'
        replace X2 := X2.farW F1 (by omega)
        replace X3 := X3.farW F1 (by omega)
        replace X5 := X5.farW F1 (by omega)
        replace Oz1 := Oz1.farW F1 (by omega)
        replace Oz2 := Oz2.farW F1 (by omega)
        replace Ox1 := Ox1.farW F1 (by omega)
        replace Ox2 := Ox2.farW F1 (by omega)
        replace F := F.trans F1
        clear F1
        dsimp only at hl3
        have hl3z : s3.size ≤ 140737488351232 := by have h4 := s_len s3; have h5 := s_len s2; rw [hl3] at h4; omega
        clear hs3 hl2 hl2z
        cases sg2
        · go_wp2_with fail
          have HE := Lib.hid (num_4 (isD := isDr r) (rd := rdr r) (mk := mkr) (zz := z) (w := e) hx1 (by simp) hx2 (by simp [hn2.out]) (by simp) hx3)
          replace X2 := X2.dr
          replace X3 := X3.dr
          replace X5 := X5.dr
          replace S := S.dr
          replace F := F.dr
          replace Oz1 := Oz1.dr
          replace Oz2 := Oz2.dr
          replace Ox1 := Ox1.dr
          replace Ox2 := Ox2.dr
          refine AnyW.regionQ (fun _ => false) 5 (fun w' => w'.cell? ⟨g5, 0, none⟩ = some (.bool z.s) ∧ w'.cell? ⟨g5, 1, none⟩ = some (.slice Az z.a.length cz) ∧ w'.cell? ⟨g5, 2, none⟩ = some (.slice Dz z.b.length dz)) rfl (by kernel_rfl) (by kernel_rfl) (by (repeat (with_reducible (first | refine quiet_then ?_ | refine quiet_block ?_))); exact quiet_body) ⟨X5.cell 0, X5.cell 1, X5.cell 2⟩ (fun Q' hQK hq hns hHeld => ?_)
          generalize w8.drew = wd at *
          refine AnyW.next (i := 0) (v := ?_) hq hns hHeld rfl rfl (by kernel_rfl) (Or.inl ⟨by rfl, ?_⟩) ?_
          rotate_left
          · intro w' hSw; (try dsimp only at hSw); go_simp <;> with_reducible rfl
          try simp only [List.setIfInBounds_toArray, List.set_cons_zero, List.set_cons_succ]
          refine AnyW.next (i := 1) (v := ?_) hq hns hHeld rfl rfl (by kernel_rfl) (Or.inl ⟨by rfl, ?_⟩) ?_
          rotate_left
          · intro w' hSw; (try dsimp only at hSw); go_simp <;> with_reducible rfl
          try simp only [List.setIfInBounds_toArray, List.set_cons_zero, List.set_cons_succ]
          have m0 := X2.cell 0
          have m1 := X2.cell 1
          have m2 := X2.cell 2
          have mf0 := X2.frozen 0
          have mf1 := X2.frozen 1
          have mf2 := X2.frozen 2
          refine AnyW.one 2 (by kernel_rfl) rfl (fun K' hK => ?_)
          go_simp
          replace X2 := X2.put3 (.bool z.s) (.slice Az z.a.length cz) (.slice Dz z.b.length dz)
          replace X3 := X3.wr3 (r := w.heap.size) (by omega) (.bool z.s) (.slice Az z.a.length cz) (.slice Dz z.b.length dz)
          replace X5 := X5.wr3 (r := w.heap.size) (by omega) (.bool z.s) (.slice Az z.a.length cz) (.slice Dz z.b.length dz)
          replace S := S.wr3 (r := w.heap.size) (by omega) (.bool z.s) (.slice Az z.a.length cz) (.slice Dz z.b.length dz)
          replace Oz1 := Oz1.wr3b (b := w.heap.size) (by omega) (.bool z.s) (.slice Az z.a.length cz) (.slice Dz z.b.length dz)
          replace Oz2 := Oz2.wr3b (b := w.heap.size) (by omega) (.bool z.s) (.slice Az z.a.length cz) (.slice Dz z.b.length dz)
          replace Ox1 := Ox1.wr3b (b := w.heap.size) (by omega) (.bool z.s) (.slice Az z.a.length cz) (.slice Dz z.b.length dz)
          replace Ox2 := Ox2.wr3b (b := w.heap.size) (by omega) (.bool z.s) (.slice Az z.a.length cz) (.slice Dz z.b.length dz)
          replace F := F.wr3 (b := w.heap.size) (by omega) (Nat.le_of_lt hgw) (.bool z.s) (.slice Az z.a.length cz) (.slice Dz z.b.length dz)
          obtain ⟨w23, hw23⟩ : ∃ w23, w23 = Proofs.YtbgggepdlkbpoaaGreatDoor.wr3 wd w.heap.size (.bool z.s) (.slice Az z.a.length cz) (.slice Dz z.b.length dz) := ⟨_, rfl⟩
          rw [← hw23] at X2 X3 X5 S F Oz1 Oz2 Ox1 Ox2
          unfold Proofs.YtbgggepdlkbpoaaGreatDoor.wr3 at hw23
          rw [← hw23]
          clear hw23
          clear m0 mf0 m1 mf1 m2 mf2
          refine hK.out _ _ (.inr ⟨X5.cell 0, X5.cell 1, X5.cell 2⟩) (fun hG => ?_)
          have hHeld := hG.resolve_left (notGone.spec (by rfl))
          clear hK K' hG
          try simp only [List.setIfInBounds_toArray, List.set_cons_zero, List.set_cons_succ]
          have m0 := X3.cell 0
          have m1 := X3.cell 1
          have m2 := X3.cell 2
          have mf0 := X3.frozen 0
          have mf1 := X3.frozen 1
          have mf2 := X3.frozen 2
          refine AnyW.one 3 (by kernel_rfl) rfl (fun K' hK => ?_)
          go_simp
          replace X2 := X2.wr3 (r := (w.heap.size + 1)) (by omega) (.bool z.s) (.slice Az z.a.length cz) (.slice Dz z.b.length dz)
          replace X3 := X3.put3 (.bool z.s) (.slice Az z.a.length cz) (.slice Dz z.b.length dz)
          replace X5 := X5.wr3 (r := (w.heap.size + 1)) (by omega) (.bool z.s) (.slice Az z.a.length cz) (.slice Dz z.b.length dz)
          replace S := S.wr3 (r := (w.heap.size + 1)) (by omega) (.bool z.s) (.slice Az z.a.length cz) (.slice Dz z.b.length dz)
          replace Oz1 := Oz1.wr3b (b := (w.heap.size + 1)) (by omega) (.bool z.s) (.slice Az z.a.length cz) (.slice Dz z.b.length dz)
          replace Oz2 := Oz2.wr3b (b := (w.heap.size + 1)) (by omega) (.bool z.s) (.slice Az z.a.length cz) (.slice Dz z.b.length dz)
          replace Ox1 := Ox1.wr3b (b := (w.heap.size + 1)) (by omega) (.bool z.s) (.slice Az z.a.length cz) (.slice Dz z.b.length dz)
          replace Ox2 := Ox2.wr3b (b := (w.heap.size + 1)) (by omega) (.bool z.s) (.slice Az z.a.length cz) (.slice Dz z.b.length dz)
          replace F := F.wr3 (b := (w.heap.size + 1)) (by omega) (Nat.le_of_lt hgw) (.bool z.s) (.slice Az z.a.length cz) (.slice Dz z.b.length dz)
          obtain ⟨w24, hw24⟩ : ∃ w24, w24 = Proofs.YtbgggepdlkbpoaaGreatDoor.wr3 w23 (w.heap.size + 1) (.bool z.s) (.slice Az z.a.length cz) (.slice Dz z.b.length dz) := ⟨_, rfl⟩
          rw [← hw24] at X2 X3 X5 S F Oz1 Oz2 Ox1 Ox2
          unfold Proofs.YtbgggepdlkbpoaaGreatDoor.wr3 at hw24
          rw [← hw24]
          clear hw24
          clear m0 mf0 m1 mf1 m2 mf2
          refine hK.out _ _ (.inr ⟨X5.cell 0, X5.cell 1, X5.cell 2⟩) (fun hG => ?_)
          have hHeld := hG.resolve_left (notGone.spec (by rfl))
          clear hK K' hG
          try simp only [List.setIfInBounds_toArray, List.set_cons_zero, List.set_cons_succ]
          refine AnyW.nextT (i := 4) (v := ?_) hq hns (.inr hHeld) rfl rfl (by kernel_rfl) (Or.inl ⟨by rfl, ?_⟩) ?_
          rotate_left
          · intro w' _; go_simp <;> with_reducible rfl
          try simp only [List.setIfInBounds_toArray, List.set_cons_zero, List.set_cons_succ]
          refine AnyW.done (by kernel_rfl) (hQK.out _ _ ?_)
          clear hQK hq hns hHeld
          clear hr1 hr2 hs
          have r0 := X2.cell 0
          have r1 := X2.cell 1
          have r2 := X2.cell 2
          have r3 := X3.cell 0
          have r4 := X3.cell 1
          have r5 := X3.cell 2
          go_wp2_with fail
          refine bodyPost_ret (v := .tuple #[.agg #[.bool z.s, .slice Az z.a.length cz, .slice Dz z.b.length dz], .agg #[.bool z.s, .slice Az z.a.length cz, .slice Dz z.b.length dz], .bool false]) (by simp [results, r0, r1, r2, r3, r4, r5, go_sem]) rfl ?_
          rw [HE.out]
          exact ⟨Az, cz, Dz, dz, Az, cz, Dz, dz, _, rfl, Oz1.base_le (by omega), Oz2.base_le (by omega), Oz1.base_le (by omega), Oz2.base_le (by omega), S, F⟩
        · go_wp2_with fail
          have hv := unit_any g s3 _ _ w8 S
          rw [hl3] at hv
          refine hv.mono ?_; rintro e' w9 ⟨rfl, rfl⟩
          clear hv
          by_cases hu3 : unitB l3 = true
          · rw [hu3]
            go_wp2_with fail
            have HE := Lib.hid (num_5 (isD := isDr r) (rd := rdr r) (mk := mkr) (zz := z) (w := e) hx1 (by simp) hx2 (by simp [hn2.out]) (by simp) hx3 hu3)
            replace X2 := X2.dr
            replace X3 := X3.dr
            replace X5 := X5.dr
            replace S := S.dr
            replace F := F.dr
            replace Oz1 := Oz1.dr
            replace Oz2 := Oz2.dr
            replace Ox1 := Ox1.dr
            replace Ox2 := Ox2.dr
            refine AnyW.regionQ (fun _ => false) 7 (fun w' => w'.cell? ⟨w.heap.size, 0, none⟩ = some (.bool x.s) ∧ w'.cell? ⟨w.heap.size, 1, none⟩ = some (.slice Ar x.a.length cr) ∧ w'.cell? ⟨w.heap.size, 2, none⟩ = some (.slice Dr x.b.length dr)) rfl (by kernel_rfl) (by kernel_rfl) (by (repeat (with_reducible (first | refine quiet_then ?_ | refine quiet_block ?_))); exact quiet_body) ⟨X2.cell 0, X2.cell 1, X2.cell 2⟩ (fun Q' hQK hq hns hHeld => ?_)
            generalize w8.drew = wd at *
            refine AnyW.next (i := 0) (v := ?_) hq hns hHeld rfl rfl (by kernel_rfl) (Or.inl ⟨by rfl, ?_⟩) ?_
            rotate_left
            · intro w' hSw; (try dsimp only at hSw); go_simp <;> with_reducible rfl
            try simp only [List.setIfInBounds_toArray, List.set_cons_zero, List.set_cons_succ]
            refine AnyW.nextT (i := 1) (v := ?_) hq hns (.inr hHeld) rfl rfl (by kernel_rfl) (Or.inl ⟨by rfl, ?_⟩) ?_
            rotate_left
            · intro w' _; go_simp <;> with_reducible rfl
            try simp only [List.setIfInBounds_toArray, List.set_cons_zero, List.set_cons_succ]
            refine AnyW.one 2 (by kernel_rfl) rfl (fun K' hK => ?_)
            go_simp
            have Bk := bal wd (.cells #[.int .u32 (1 : Int)] 55)
            replace F := F.nx Bk (by have := S.lt; omega)
            replace S := S.nx Bk
            replace X2 := X2.nx Bk
            replace X3 := X3.nx Bk
            replace X5 := X5.nx Bk
            replace Oz1 := Oz1.below Bk (Nat.le_refl _)
            replace Oz2 := Oz2.below Bk (Nat.le_refl _)
            replace Ox1 := Ox1.below Bk (Nat.le_refl _)
            replace Ox2 := Ox2.below Bk (Nat.le_refl _)
            clear Bk
            have hW := whole_one neg2 wd
            obtain ⟨w25, hw25⟩ : ∃ w25, w25 = wd.alloc (.cells #[.int .u32 (1 : Int)] 55) := ⟨_, rfl⟩
            rw [← hw25] at X2 X3 X5 S F Oz1 Oz2 Ox1 Ox2 hW
            rw [← hw25]
            clear hw25
            refine hK.out _ _ (.inr ⟨X2.cell 0, X2.cell 1, X2.cell 2⟩) (fun hG => ?_)
            have hHeld := hG.resolve_left (notGone.spec (by rfl))
            clear hK K' hG
            try simp only [List.setIfInBounds_toArray, List.set_cons_zero, List.set_cons_succ]
            refine AnyW.one 3 (by kernel_rfl) rfl (fun K' hK => ?_)
            go_simp
            refine hW.mono ?_; rintro e' w26 ⟨Ao, co, Do, do_, rfl, Oo1, Oo2, BX⟩
            clear hW
            have hzb : w.heap.size + 2 ≤ w25.heap.size := by have := X3.lt; omega
            replace Oo1 := Oo1.base_le hzb
            replace Oo2 := Oo2.base_le hzb
            clear hzb
            go_wp2_with fail
            replace F := F.nx BX (by have := S.lt; omega)
            replace S := S.nx BX
            replace X2 := X2.nx BX
            replace X3 := X3.nx BX
            replace X5 := X5.nx BX
            replace Oz1 := Oz1.below BX (Nat.le_refl _)
            replace Oz2 := Oz2.below BX (Nat.le_refl _)
            replace Ox1 := Ox1.below BX (Nat.le_refl _)
            replace Ox2 := Ox2.below BX (Nat.le_refl _)
            clear BX
            obtain ⟨o, ho⟩ : ∃ o, mkr neg2 [1] [1] = o := ⟨_, rfl⟩
            rw [ho] at Oo1 Oo2 HE ⊢
            clear ho
            refine hK.out _ _ (.inr ⟨X2.cell 0, X2.cell 1, X2.cell 2⟩) (fun hG => ?_)
            have hHeld := hG.resolve_left (notGone.spec (by rfl))
            clear hK K' hG
            try simp only [List.setIfInBounds_toArray, List.set_cons_zero, List.set_cons_succ]
            have m0 := X2.cell 0
            have m1 := X2.cell 1
            have m2 := X2.cell 2
            have mf0 := X2.frozen 0
            have mf1 := X2.frozen 1
            have mf2 := X2.frozen 2
            refine AnyW.one 4 (by kernel_rfl) rfl (fun K' hK => ?_)
            go_simp
            replace X2 := X2.put3 (.bool x.s) (.slice Ar x.a.length cr) (.slice Dr x.b.length dr)
            replace X3 := X3.wr3 (r := w.heap.size) (by omega) (.bool x.s) (.slice Ar x.a.length cr) (.slice Dr x.b.length dr)
            replace X5 := X5.wr3 (r := w.heap.size) (by omega) (.bool x.s) (.slice Ar x.a.length cr) (.slice Dr x.b.length dr)
            replace S := S.wr3 (r := w.heap.size) (by omega) (.bool x.s) (.slice Ar x.a.length cr) (.slice Dr x.b.length dr)
            replace Oz1 := Oz1.wr3b (b := w.heap.size) (by omega) (.bool x.s) (.slice Ar x.a.length cr) (.slice Dr x.b.length dr)
            replace Oz2 := Oz2.wr3b (b := w.heap.size) (by omega) (.bool x.s) (.slice Ar x.a.length cr) (.slice Dr x.b.length dr)
            replace Ox1 := Ox1.wr3b (b := w.heap.size) (by omega) (.bool x.s) (.slice Ar x.a.length cr) (.slice Dr x.b.length dr)
            replace Ox2 := Ox2.wr3b (b := w.heap.size) (by omega) (.bool x.s) (.slice Ar x.a.length cr) (.slice Dr x.b.length dr)
            replace Oo1 := Oo1.wr3b (b := w.heap.size) (by omega) (.bool x.s) (.slice Ar x.a.length cr) (.slice Dr x.b.length dr)
            replace Oo2 := Oo2.wr3b (b := w.heap.size) (by omega) (.bool x.s) (.slice Ar x.a.length cr) (.slice Dr x.b.length dr)
            replace F := F.wr3 (b := w.heap.size) (by omega) (Nat.le_of_lt hgw) (.bool x.s) (.slice Ar x.a.length cr) (.slice Dr x.b.length dr)
            obtain ⟨w27, hw27⟩ : ∃ w27, w27 = Proofs.YtbgggepdlkbpoaaGreatDoor.wr3 w26 w.heap.size (.bool x.s) (.slice Ar x.a.length cr) (.slice Dr x.b.length dr) := ⟨_, rfl⟩
            rw [← hw27] at X2 X3 X5 S F Oz1 Oz2 Ox1 Ox2 Oo1 Oo2
            unfold Proofs.YtbgggepdlkbpoaaGreatDoor.wr3 at hw27
            rw [← hw27]
            clear hw27
            clear m0 mf0 m1 mf1 m2 mf2
            refine hK.out _ _ (.inr ⟨X2.cell 0, X2.cell 1, X2.cell 2⟩) (fun hG => ?_)
            have hHeld := hG.resolve_left (notGone.spec (by rfl))
            clear hK K' hG
            try simp only [List.setIfInBounds_toArray, List.set_cons_zero, List.set_cons_succ]
            have m0 := X3.cell 0
            have m1 := X3.cell 1
            have m2 := X3.cell 2
            have mf0 := X3.frozen 0
            have mf1 := X3.frozen 1
            have mf2 := X3.frozen 2
            refine AnyW.one 5 (by kernel_rfl) rfl (fun K' hK => ?_)
            go_simp
            replace X2 := X2.wr3 (r := (w.heap.size + 1)) (by omega) (.bool o.s) (.slice Ao o.a.length co) (.slice Do o.b.length do_)
            replace X3 := X3.put3 (.bool o.s) (.slice Ao o.a.length co) (.slice Do o.b.length do_)
            replace X5 := X5.wr3 (r := (w.heap.size + 1)) (by omega) (.bool o.s) (.slice Ao o.a.length co) (.slice Do o.b.length do_)
            replace S := S.wr3 (r := (w.heap.size + 1)) (by omega) (.bool o.s) (.slice Ao o.a.length co) (.slice Do o.b.length do_)
            replace Oz1 := Oz1.wr3b (b := (w.heap.size + 1)) (by omega) (.bool o.s) (.slice Ao o.a.length co) (.slice Do o.b.length do_)
            replace Oz2 := Oz2.wr3b (b := (w.heap.size + 1)) (by omega) (.bool o.s) (.slice Ao o.a.length co) (.slice Do o.b.length do_)
            replace Ox1 := Ox1.wr3b (b := (w.heap.size + 1)) (by omega) (.bool o.s) (.slice Ao o.a.length co) (.slice Do o.b.length do_)
            replace Ox2 := Ox2.wr3b (b := (w.heap.size + 1)) (by omega) (.bool o.s) (.slice Ao o.a.length co) (.slice Do o.b.length do_)
            replace Oo1 := Oo1.wr3b (b := (w.heap.size + 1)) (by omega) (.bool o.s) (.slice Ao o.a.length co) (.slice Do o.b.length do_)
            replace Oo2 := Oo2.wr3b (b := (w.heap.size + 1)) (by omega) (.bool o.s) (.slice Ao o.a.length co) (.slice Do o.b.length do_)
            replace F := F.wr3 (b := (w.heap.size + 1)) (by omega) (Nat.le_of_lt hgw) (.bool o.s) (.slice Ao o.a.length co) (.slice Do o.b.length do_)
            obtain ⟨w28, hw28⟩ : ∃ w28, w28 = Proofs.YtbgggepdlkbpoaaGreatDoor.wr3 w27 (w.heap.size + 1) (.bool o.s) (.slice Ao o.a.length co) (.slice Do o.b.length do_) := ⟨_, rfl⟩
            rw [← hw28] at X2 X3 X5 S F Oz1 Oz2 Ox1 Ox2 Oo1 Oo2
            unfold Proofs.YtbgggepdlkbpoaaGreatDoor.wr3 at hw28
            rw [← hw28]
            clear hw28
            clear m0 mf0 m1 mf1 m2 mf2
            refine hK.out _ _ (.inr ⟨X2.cell 0, X2.cell 1, X2.cell 2⟩) (fun hG => ?_)
            have hHeld := hG.resolve_left (notGone.spec (by rfl))
            clear hK K' hG
            try simp only [List.setIfInBounds_toArray, List.set_cons_zero, List.set_cons_succ]
            refine AnyW.nextT (i := 6) (v := ?_) hq hns (.inr hHeld) rfl rfl (by kernel_rfl) (Or.inl ⟨by rfl, ?_⟩) ?_
            rotate_left
            · intro w' _; go_simp <;> with_reducible rfl
            try simp only [List.setIfInBounds_toArray, List.set_cons_zero, List.set_cons_succ]
            refine AnyW.done (by kernel_rfl) (hQK.out _ _ ?_)
            clear hQK hq hns hHeld
            clear hr1 hr2 hs
            have r0 := X2.cell 0
            have r1 := X2.cell 1
            have r2 := X2.cell 2
            have r3 := X3.cell 0
            have r4 := X3.cell 1
            have r5 := X3.cell 2
            go_wp2_with fail
            refine bodyPost_ret (v := .tuple #[.agg #[.bool x.s, .slice Ar x.a.length cr, .slice Dr x.b.length dr], .agg #[.bool o.s, .slice Ao o.a.length co, .slice Do o.b.length do_], .bool true]) (by simp [results, r0, r1, r2, r3, r4, r5, go_sem]) rfl ?_
            rw [HE.out]
            exact ⟨Ar, cr, Dr, dr, Ao, co, Do, do_, _, rfl, Ox1.base_le (by omega), Ox2.base_le (by omega), Oo1.base_le (by omega), Oo2.base_le (by omega), S, F⟩
          · rw [Bool.eq_false_iff.2 hu3]
            go_wp2_with fail
            have hf := fraction_any g s3 r e2 neg2 w8 hl3z hr1 hr2 S
            rw [hl3] at hf
            obtain ⟨x2, hx4⟩ : ∃ x2, fracP (isDr r) (rdr r) mkr neg2 l3 e2 = x2 := ⟨_, rfl⟩
            have hfl := fracP_len (r := r) neg2 l3 e2
            rw [hx4] at hf hfl
            obtain ⟨y, ok3, l4, e4⟩ := x2
            dsimp only at hf hfl
            have hzb : w.heap.size + 2 ≤ w8.heap.size := by have := X3.lt; omega
            refine hf.mono ?_; rintro e' w9 ⟨Ai, ci, Di, di, s4, rfl, Oy1, Oy2, hl4, S', F1⟩
            dsimp only at Oy1 Oy2 hl4 S'
            clear hf S
            have S := S'
            clear S'
            replace X2 := X2.farW F1 (by omega)
            replace X3 := X3.farW F1 (by omega)
            replace X5 := X5.farW F1 (by omega)
            replace Oz1 := Oz1.farW F1 (by omega)
            replace Oz2 := Oz2.farW F1 (by omega)
            replace Ox1 := Ox1.farW F1 (by omega)
            replace Ox2 := Ox2.farW F1 (by omega)
            replace F := F.trans F1
            clear F1
            replace Oy1 := Oy1.base_le hzb
            replace Oy2 := Oy2.base_le hzb
            clear hzb
            have hl4z : s4.size ≤ 140737488351232 := by have := s_len s4; have h1 := s_len s3; rw [hl4] at this; rw [hl3] at h1; omega
            clear hfl
            clear hl3 hl3z hl4z
            cases ok3
            · skip
              have ks := S.cell 0
              have m0 := X3.cell 0
              have m1 := X3.cell 1
              have m2 := X3.cell 2
              have mf0 := X3.frozen 0
              have mf1 := X3.frozen 1
              have mf2 := X3.frozen 2
              replace X2 := X2.wr3 (r := (w.heap.size + 1)) (by omega) (.bool y.s) (.slice Ai y.a.length ci) (.slice Di y.b.length di)
              replace X3 := X3.put3 (.bool y.s) (.slice Ai y.a.length ci) (.slice Di y.b.length di)
              replace X5 := X5.wr3 (r := (w.heap.size + 1)) (by omega) (.bool y.s) (.slice Ai y.a.length ci) (.slice Di y.b.length di)
              replace S := S.wr3 (r := (w.heap.size + 1)) (by omega) (.bool y.s) (.slice Ai y.a.length ci) (.slice Di y.b.length di)
              replace Oz1 := Oz1.wr3b (b := (w.heap.size + 1)) (by omega) (.bool y.s) (.slice Ai y.a.length ci) (.slice Di y.b.length di)
              replace Oz2 := Oz2.wr3b (b := (w.heap.size + 1)) (by omega) (.bool y.s) (.slice Ai y.a.length ci) (.slice Di y.b.length di)
              replace Ox1 := Ox1.wr3b (b := (w.heap.size + 1)) (by omega) (.bool y.s) (.slice Ai y.a.length ci) (.slice Di y.b.length di)
              replace Ox2 := Ox2.wr3b (b := (w.heap.size + 1)) (by omega) (.bool y.s) (.slice Ai y.a.length ci) (.slice Di y.b.length di)
              replace Oy1 := Oy1.wr3b (b := (w.heap.size + 1)) (by omega) (.bool y.s) (.slice Ai y.a.length ci) (.slice Di y.b.length di)
              replace Oy2 := Oy2.wr3b (b := (w.heap.size + 1)) (by omega) (.bool y.s) (.slice Ai y.a.length ci) (.slice Di y.b.length di)
              replace F := F.wr3 (b := (w.heap.size + 1)) (by omega) (Nat.le_of_lt hgw) (.bool y.s) (.slice Ai y.a.length ci) (.slice Di y.b.length di)
              obtain ⟨w29, hw29⟩ : ∃ w29, w29 = Proofs.YtbgggepdlkbpoaaGreatDoor.wr3 w9 (w.heap.size + 1) (.bool y.s) (.slice Ai y.a.length ci) (.slice Di y.b.length di) := ⟨_, rfl⟩
              rw [← hw29] at X2 X3 X5 S F Oz1 Oz2 Ox1 Ox2 Oy1 Oy2
              go_wp2_with fail
              unfold Proofs.YtbgggepdlkbpoaaGreatDoor.wr3 at hw29
              rw [← hw29]
              clear hw29
              clear m0 mf0 m1 mf1 m2 mf2
              clear ks
              have HE := Lib.hid (num_6 (isD := isDr r) (rd := rdr r) (mk := mkr) (zz := z) (w := e) hx1 (by simp) hx2 (by simp [hn2.out]) (by simp) hx3 hu3 hx4)
              replace X2 := X2.dr
              replace X3 := X3.dr
              replace X5 := X5.dr
              replace S := S.dr
              replace F := F.dr
              replace Oz1 := Oz1.dr
              replace Oz2 := Oz2.dr
              replace Ox1 := Ox1.dr
              replace Ox2 := Ox2.dr
              replace Oy1 := Oy1.dr
              replace Oy2 := Oy2.dr
              refine AnyW.regionQ (fun _ => false) 10 (fun w' => w'.cell? ⟨w.heap.size, 0, none⟩ = some (.bool x.s) ∧ w'.cell? ⟨w.heap.size, 1, none⟩ = some (.slice Ar x.a.length cr) ∧ w'.cell? ⟨w.heap.size, 2, none⟩ = some (.slice Dr x.b.length dr) ∧ w'.cell? ⟨(w.heap.size + 1), 0, none⟩ = some (.bool y.s) ∧ w'.cell? ⟨(w.heap.size + 1), 1, none⟩ = some (.slice Ai y.a.length ci) ∧ w'.cell? ⟨(w.heap.size + 1), 2, none⟩ = some (.slice Di y.b.length di)) rfl (by kernel_rfl) (by kernel_rfl) (by (repeat (with_reducible (first | refine quiet_then ?_ | refine quiet_block ?_))); exact quiet_body) ⟨X2.cell 0, X2.cell 1, X2.cell 2, X3.cell 0, X3.cell 1, X3.cell 2⟩ (fun Q' hQK hq hns hHeld => ?_)
              generalize w29.drew = wd at *
              refine AnyW.next (i := 0) (v := ?_) hq hns hHeld rfl rfl (by kernel_rfl) (Or.inl ⟨by rfl, ?_⟩) ?_
              rotate_left
              · intro w' hSw; (try dsimp only at hSw); go_simp <;> with_reducible rfl
              try simp only [List.setIfInBounds_toArray, List.set_cons_zero, List.set_cons_succ]
              refine AnyW.next (i := 1) (v := ?_) hq hns hHeld rfl rfl (by kernel_rfl) (Or.inl ⟨by rfl, ?_⟩) ?_
              rotate_left
              · intro w' hSw; (try dsimp only at hSw); go_simp <;> with_reducible rfl
              try simp only [List.setIfInBounds_toArray, List.set_cons_zero, List.set_cons_succ]
              refine AnyW.nextT (i := 2) (v := ?_) hq hns (.inr hHeld) rfl rfl (by kernel_rfl) (Or.inl ⟨by rfl, ?_⟩) ?_
              rotate_left
              · intro w' _; go_simp <;> with_reducible rfl
              try simp only [List.setIfInBounds_toArray, List.set_cons_zero, List.set_cons_succ]
              refine AnyW.nextT (i := 3) (v := ?_) hq hns (.inr hHeld) rfl rfl (by kernel_rfl) (Or.inl ⟨by rfl, ?_⟩) ?_
              rotate_left
              · intro w' _; go_simp <;> with_reducible rfl
              try simp only [List.setIfInBounds_toArray, List.set_cons_zero, List.set_cons_succ]
              refine AnyW.nextT (i := 4) (v := undef) hq hns (.inr hHeld) rfl rfl (by kernel_rfl) (Or.inr ⟨by rfl, rfl⟩) ?_
              try simp only [List.setIfInBounds_toArray, List.set_cons_zero, List.set_cons_succ]
              refine AnyW.nextT (i := 5) (v := undef) hq hns (.inr hHeld) rfl rfl (by kernel_rfl) (Or.inr ⟨by rfl, rfl⟩) ?_
              try simp only [List.setIfInBounds_toArray, List.set_cons_zero, List.set_cons_succ]
              refine AnyW.nextT (i := 6) (v := ?_) hq hns (.inr hHeld) rfl rfl (by kernel_rfl) (Or.inl ⟨by rfl, ?_⟩) ?_
              rotate_left
              · intro w' _; go_simp <;> with_reducible rfl
              try simp only [List.setIfInBounds_toArray, List.set_cons_zero, List.set_cons_succ]
              have m0 := X2.cell 0
              have m1 := X2.cell 1
              have m2 := X2.cell 2
              have mf0 := X2.frozen 0
              have mf1 := X2.frozen 1
              have mf2 := X2.frozen 2
              refine AnyW.one 7 (by kernel_rfl) rfl (fun K' hK => ?_)
              go_simp
              replace X2 := X2.put3 (.bool x.s) (.slice Ar x.a.length cr) (.slice Dr x.b.length dr)
              replace X3 := X3.wr3 (r := w.heap.size) (by omega) (.bool x.s) (.slice Ar x.a.length cr) (.slice Dr x.b.length dr)
              replace X5 := X5.wr3 (r := w.heap.size) (by omega) (.bool x.s) (.slice Ar x.a.length cr) (.slice Dr x.b.length dr)
              replace S := S.wr3 (r := w.heap.size) (by omega) (.bool x.s) (.slice Ar x.a.length cr) (.slice Dr x.b.length dr)
              replace Oz1 := Oz1.wr3b (b := w.heap.size) (by omega) (.bool x.s) (.slice Ar x.a.length cr) (.slice Dr x.b.length dr)
              replace Oz2 := Oz2.wr3b (b := w.heap.size) (by omega) (.bool x.s) (.slice Ar x.a.length cr) (.slice Dr x.b.length dr)
              replace Ox1 := Ox1.wr3b (b := w.heap.size) (by omega) (.bool x.s) (.slice Ar x.a.length cr) (.slice Dr x.b.length dr)
              replace Ox2 := Ox2.wr3b (b := w.heap.size) (by omega) (.bool x.s) (.slice Ar x.a.length cr) (.slice Dr x.b.length dr)
              replace Oy1 := Oy1.wr3b (b := w.heap.size) (by omega) (.bool x.s) (.slice Ar x.a.length cr) (.slice Dr x.b.length dr)
              replace Oy2 := Oy2.wr3b (b := w.heap.size) (by omega) (.bool x.s) (.slice Ar x.a.length cr) (.slice Dr x.b.length dr)
              replace F := F.wr3 (b := w.heap.size) (by omega) (Nat.le_of_lt hgw) (.bool x.s) (.slice Ar x.a.length cr) (.slice Dr x.b.length dr)
              obtain ⟨w30, hw30⟩ : ∃ w30, w30 = Proofs.YtbgggepdlkbpoaaGreatDoor.wr3 wd w.heap.size (.bool x.s) (.slice Ar x.a.length cr) (.slice Dr x.b.length dr) := ⟨_, rfl⟩
              rw [← hw30] at X2 X3 X5 S F Oz1 Oz2 Ox1 Ox2 Oy1 Oy2
              unfold Proofs.YtbgggepdlkbpoaaGreatDoor.wr3 at hw30
              rw [← hw30]
              clear hw30
              clear m0 mf0 m1 mf1 m2 mf2
              refine hK.out _ _ (.inr ⟨X2.cell 0, X2.cell 1, X2.cell 2, X3.cell 0, X3.cell 1, X3.cell 2⟩) (fun hG => ?_)
              have hHeld := hG.resolve_left (notGone.spec (by rfl))
              clear hK K' hG
              try simp only [List.setIfInBounds_toArray, List.set_cons_zero, List.set_cons_succ]
              have m0 := X3.cell 0
              have m1 := X3.cell 1
              have m2 := X3.cell 2
              have mf0 := X3.frozen 0
              have mf1 := X3.frozen 1
              have mf2 := X3.frozen 2
              refine AnyW.one 8 (by kernel_rfl) rfl (fun K' hK => ?_)
              go_simp
              replace X2 := X2.wr3 (r := (w.heap.size + 1)) (by omega) (.bool y.s) (.slice Ai y.a.length ci) (.slice Di y.b.length di)
              replace X3 := X3.put3 (.bool y.s) (.slice Ai y.a.length ci) (.slice Di y.b.length di)
              replace X5 := X5.wr3 (r := (w.heap.size + 1)) (by omega) (.bool y.s) (.slice Ai y.a.length ci) (.slice Di y.b.length di)
              replace S := S.wr3 (r := (w.heap.size + 1)) (by omega) (.bool y.s) (.slice Ai y.a.length ci) (.slice Di y.b.length di)
              replace Oz1 := Oz1.wr3b (b := (w.heap.size + 1)) (by omega) (.bool y.s) (.slice Ai y.a.length ci) (.slice Di y.b.length di)
              replace Oz2 := Oz2.wr3b (b := (w.heap.size + 1)) (by omega) (.bool y.s) (.slice Ai y.a.length ci) (.slice Di y.b.length di)
              replace Ox1 := Ox1.wr3b (b := (w.heap.size + 1)) (by omega) (.bool y.s) (.slice Ai y.a.length ci) (.slice Di y.b.length di)
              replace Ox2 := Ox2.wr3b (b := (w.heap.size + 1)) (by omega) (.bool y.s) (.slice Ai y.a.length ci) (.slice Di y.b.length di)
              replace Oy1 := Oy1.wr3b (b := (w.heap.size + 1)) (by omega) (.bool y.s) (.slice Ai y.a.length ci) (.slice Di y.b.length di)
              replace Oy2 := Oy2.wr3b (b := (w.heap.size + 1)) (by omega) (.bool y.s) (.slice Ai y.a.length ci) (.slice Di y.b.length di)
              replace F := F.wr3 (b := (w.heap.size + 1)) (by omega) (Nat.le_of_lt hgw) (.bool y.s) (.slice Ai y.a.length ci) (.slice Di y.b.length di)
              obtain ⟨w31, hw31⟩ : ∃ w31, w31 = Proofs.YtbgggepdlkbpoaaGreatDoor.wr3 w30 (w.heap.size + 1) (.bool y.s) (.slice Ai y.a.length ci) (.slice Di y.b.length di) := ⟨_, rfl⟩
              rw [← hw31] at X2 X3 X5 S F Oz1 Oz2 Ox1 Ox2 Oy1 Oy2
              unfold Proofs.YtbgggepdlkbpoaaGreatDoor.wr3 at hw31
              rw [← hw31]
              clear hw31
              clear m0 mf0 m1 mf1 m2 mf2
              refine hK.out _ _ (.inr ⟨X2.cell 0, X2.cell 1, X2.cell 2, X3.cell 0, X3.cell 1, X3.cell 2⟩) (fun hG => ?_)
              have hHeld := hG.resolve_left (notGone.spec (by rfl))
              clear hK K' hG
              try simp only [List.setIfInBounds_toArray, List.set_cons_zero, List.set_cons_succ]
              refine AnyW.nextT (i := 9) (v := ?_) hq hns (.inr hHeld) rfl rfl (by kernel_rfl) (Or.inl ⟨by rfl, ?_⟩) ?_
              rotate_left
              · intro w' _; go_simp <;> with_reducible rfl
              try simp only [List.setIfInBounds_toArray, List.set_cons_zero, List.set_cons_succ]
              refine AnyW.done (by kernel_rfl) (hQK.out _ _ ?_)
              clear hQK hq hns hHeld
              clear hr1 hr2 hs
              have r0 := X2.cell 0
              have r1 := X2.cell 1
              have r2 := X2.cell 2
              have r3 := X3.cell 0
              have r4 := X3.cell 1
              have r5 := X3.cell 2
              go_wp2_with fail
              refine bodyPost_ret (v := .tuple #[.agg #[.bool x.s, .slice Ar x.a.length cr, .slice Dr x.b.length dr], .agg #[.bool y.s, .slice Ai y.a.length ci, .slice Di y.b.length di], .bool false]) (by simp [results, r0, r1, r2, r3, r4, r5, go_sem]) rfl ?_
              rw [HE.out]
              exact ⟨Ar, cr, Dr, dr, Ai, ci, Di, di, _, rfl, Ox1.base_le (by omega), Ox2.base_le (by omega), Oy1.base_le (by omega), Oy2.base_le (by omega), S, F⟩
            · skip
              have ks := S.cell 0
              have m0 := X3.cell 0
              have m1 := X3.cell 1
              have m2 := X3.cell 2
              have mf0 := X3.frozen 0
              have mf1 := X3.frozen 1
              have mf2 := X3.frozen 2
              replace X2 := X2.wr3 (r := (w.heap.size + 1)) (by omega) (.bool y.s) (.slice Ai y.a.length ci) (.slice Di y.b.length di)
              replace X3 := X3.put3 (.bool y.s) (.slice Ai y.a.length ci) (.slice Di y.b.length di)
              replace X5 := X5.wr3 (r := (w.heap.size + 1)) (by omega) (.bool y.s) (.slice Ai y.a.length ci) (.slice Di y.b.length di)
              replace S := S.wr3 (r := (w.heap.size + 1)) (by omega) (.bool y.s) (.slice Ai y.a.length ci) (.slice Di y.b.length di)
              replace Oz1 := Oz1.wr3b (b := (w.heap.size + 1)) (by omega) (.bool y.s) (.slice Ai y.a.length ci) (.slice Di y.b.length di)
              replace Oz2 := Oz2.wr3b (b := (w.heap.size + 1)) (by omega) (.bool y.s) (.slice Ai y.a.length ci) (.slice Di y.b.length di)
              replace Ox1 := Ox1.wr3b (b := (w.heap.size + 1)) (by omega) (.bool y.s) (.slice Ai y.a.length ci) (.slice Di y.b.length di)
              replace Ox2 := Ox2.wr3b (b := (w.heap.size + 1)) (by omega) (.bool y.s) (.slice Ai y.a.length ci) (.slice Di y.b.length di)
              replace Oy1 := Oy1.wr3b (b := (w.heap.size + 1)) (by omega) (.bool y.s) (.slice Ai y.a.length ci) (.slice Di y.b.length di)
              replace Oy2 := Oy2.wr3b (b := (w.heap.size + 1)) (by omega) (.bool y.s) (.slice Ai y.a.length ci) (.slice Di y.b.length di)
              replace F := F.wr3 (b := (w.heap.size + 1)) (by omega) (Nat.le_of_lt hgw) (.bool y.s) (.slice Ai y.a.length ci) (.slice Di y.b.length di)
              obtain ⟨w32, hw32⟩ : ∃ w32, w32 = Proofs.YtbgggepdlkbpoaaGreatDoor.wr3 w9 (w.heap.size + 1) (.bool y.s) (.slice Ai y.a.length ci) (.slice Di y.b.length di) := ⟨_, rfl⟩
              rw [← hw32] at X2 X3 X5 S F Oz1 Oz2 Ox1 Ox2 Oy1 Oy2
              go_wp2_with fail
              unfold Proofs.YtbgggepdlkbpoaaGreatDoor.wr3 at hw32
              rw [← hw32]
              clear hw32
              clear m0 mf0 m1 mf1 m2 mf2
              clear ks
              have HE := Lib.hid (num_6 (isD := isDr r) (rd := rdr r) (mk := mkr) (zz := z) (w := e) hx1 (by simp) hx2 (by simp [hn2.out]) (by simp) hx3 hu3 hx4)
              replace X2 := X2.dr
              replace X3 := X3.dr
              replace X5 := X5.dr
              replace S := S.dr
              replace F := F.dr
              replace Oz1 := Oz1.dr
              replace Oz2 := Oz2.dr
              replace Ox1 := Ox1.dr
              replace Ox2 := Ox2.dr
              replace Oy1 := Oy1.dr
              replace Oy2 := Oy2.dr
              refine AnyW.regionQ (fun _ => false) 10 (fun w' => w'.cell? ⟨w.heap.size, 0, none⟩ = some (.bool x.s) ∧ w'.cell? ⟨w.heap.size, 1, none⟩ = some (.slice Ar x.a.length cr) ∧ w'.cell? ⟨w.heap.size, 2, none⟩ = some (.slice Dr x.b.length dr) ∧ w'.cell? ⟨(w.heap.size + 1), 0, none⟩ = some (.bool y.s) ∧ w'.cell? ⟨(w.heap.size + 1), 1, none⟩ = some (.slice Ai y.a.length ci) ∧ w'.cell? ⟨(w.heap.size + 1), 2, none⟩ = some (.slice Di y.b.length di)) rfl (by kernel_rfl) (by kernel_rfl) (by (repeat (with_reducible (first | refine quiet_then ?_ | refine quiet_block ?_))); exact quiet_body) ⟨X2.cell 0, X2.cell 1, X2.cell 2, X3.cell 0, X3.cell 1, X3.cell 2⟩ (fun Q' hQK hq hns hHeld => ?_)
              generalize w32.drew = wd at *
              refine AnyW.next (i := 0) (v := ?_) hq hns hHeld rfl rfl (by kernel_rfl) (Or.inl ⟨by rfl, ?_⟩) ?_
              rotate_left
              · intro w' hSw; (try dsimp only at hSw); go_simp <;> with_reducible rfl
              try simp only [List.setIfInBounds_toArray, List.set_cons_zero, List.set_cons_succ]
              refine AnyW.next (i := 1) (v := ?_) hq hns hHeld rfl rfl (by kernel_rfl) (Or.inl ⟨by rfl, ?_⟩) ?_
              rotate_left
              · intro w' hSw; (try dsimp only at hSw); go_simp <;> with_reducible rfl
              try simp only [List.setIfInBounds_toArray, List.set_cons_zero, List.set_cons_succ]
              refine AnyW.nextT (i := 2) (v := ?_) hq hns (.inr hHeld) rfl rfl (by kernel_rfl) (Or.inl ⟨by rfl, ?_⟩) ?_
              rotate_left
              · intro w' _; go_simp <;> with_reducible rfl
              try simp only [List.setIfInBounds_toArray, List.set_cons_zero, List.set_cons_succ]
              refine AnyW.nextT (i := 3) (v := ?_) hq hns (.inr hHeld) rfl rfl (by kernel_rfl) (Or.inl ⟨by rfl, ?_⟩) ?_
              rotate_left
              · intro w' _; go_simp <;> with_reducible rfl
              try simp only [List.setIfInBounds_toArray, List.set_cons_zero, List.set_cons_succ]
              refine AnyW.nextT (i := 4) (v := ?_) hq hns (.inr hHeld) rfl rfl (by kernel_rfl) (Or.inl ⟨by rfl, ?_⟩) ?_
              rotate_left
              · intro w' _; go_simp <;> with_reducible rfl
              try simp only [List.setIfInBounds_toArray, List.set_cons_zero, List.set_cons_succ]
              refine AnyW.one 5 (by kernel_rfl) rfl (fun K' hK => ?_)
              go_simp
              have hv := unit_any g s4 _ _ wd S
              rw [hl4] at hv
              refine hv.mono ?_; rintro e' w9 ⟨rfl, rfl⟩
              clear hv
              go_wp2_with fail
              refine hK.out _ _ (.inr ⟨X2.cell 0, X2.cell 1, X2.cell 2, X3.cell 0, X3.cell 1, X3.cell 2⟩) (fun hG => ?_)
              have hHeld := hG.resolve_left (notGone.spec (by rfl))
              clear hK K' hG
              try simp only [List.setIfInBounds_toArray, List.set_cons_zero, List.set_cons_succ]
              refine AnyW.nextT (i := 6) (v := ?_) hq hns (.inr hHeld) rfl rfl (by kernel_rfl) (Or.inl ⟨by rfl, ?_⟩) ?_
              rotate_left
              · intro w' _; go_simp <;> with_reducible rfl
              try simp only [List.setIfInBounds_toArray, List.set_cons_zero, List.set_cons_succ]
              have m0 := X2.cell 0
              have m1 := X2.cell 1
              have m2 := X2.cell 2
              have mf0 := X2.frozen 0
              have mf1 := X2.frozen 1
              have mf2 := X2.frozen 2
              refine AnyW.one 7 (by kernel_rfl) rfl (fun K' hK => ?_)
              go_simp
              replace X2 := X2.put3 (.bool x.s) (.slice Ar x.a.length cr) (.slice Dr x.b.length dr)
              replace X3 := X3.wr3 (r := w.heap.size) (by omega) (.bool x.s) (.slice Ar x.a.length cr) (.slice Dr x.b.length dr)
              replace X5 := X5.wr3 (r := w.heap.size) (by omega) (.bool x.s) (.slice Ar x.a.length cr) (.slice Dr x.b.length dr)
              replace S := S.wr3 (r := w.heap.size) (by omega) (.bool x.s) (.slice Ar x.a.length cr) (.slice Dr x.b.length dr)
              replace Oz1 := Oz1.wr3b (b := w.heap.size) (by omega) (.bool x.s) (.slice Ar x.a.length cr) (.slice Dr x.b.length dr)
              replace Oz2 := Oz2.wr3b (b := w.heap.size) (by omega) (.bool x.s) (.slice Ar x.a.length cr) (.slice Dr x.b.length dr)
              replace Ox1 := Ox1.wr3b (b := w.heap.size) (by omega) (.bool x.s) (.slice Ar x.a.length cr) (.slice Dr x.b.length dr)
              replace Ox2 := Ox2.wr3b (b := w.heap.size) (by omega) (.bool x.s) (.slice Ar x.a.length cr) (.slice Dr x.b.length dr)
              replace Oy1 := Oy1.wr3b (b := w.heap.size) (by omega) (.bool x.s) (.slice Ar x.a.length cr) (.slice Dr x.b.length dr)
              replace Oy2 := Oy2.wr3b (b := w.heap.size) (by omega) (.bool x.s) (.slice Ar x.a.length cr) (.slice Dr x.b.length dr)
              replace F := F.wr3 (b := w.heap.size) (by omega) (Nat.le_of_lt hgw) (.bool x.s) (.slice Ar x.a.length cr) (.slice Dr x.b.length dr)
              obtain ⟨w33, hw33⟩ : ∃ w33, w33 = Proofs.YtbgggepdlkbpoaaGreatDoor.wr3 wd w.heap.size (.bool x.s) (.slice Ar x.a.length cr) (.slice Dr x.b.length dr) := ⟨_, rfl⟩
              rw [← hw33] at X2 X3 X5 S F Oz1 Oz2 Ox1 Ox2 Oy1 Oy2
              unfold Proofs.YtbgggepdlkbpoaaGreatDoor.wr3 at hw33
              rw [← hw33]
              clear hw33
              clear m0 mf0 m1 mf1 m2 mf2
              refine hK.out _ _ (.inr ⟨X2.cell 0, X2.cell 1, X2.cell 2, X3.cell 0, X3.cell 1, X3.cell 2⟩) (fun hG => ?_)
              have hHeld := hG.resolve_left (notGone.spec (by rfl))
              clear hK K' hG
              try simp only [List.setIfInBounds_toArray, List.set_cons_zero, List.set_cons_succ]
              have m0 := X3.cell 0
              have m1 := X3.cell 1
              have m2 := X3.cell 2
              have mf0 := X3.frozen 0
              have mf1 := X3.frozen 1
              have mf2 := X3.frozen 2
              refine AnyW.one 8 (by kernel_rfl) rfl (fun K' hK => ?_)
              go_simp
              replace X2 := X2.wr3 (r := (w.heap.size + 1)) (by omega) (.bool y.s) (.slice Ai y.a.length ci) (.slice Di y.b.length di)
              replace X3 := X3.put3 (.bool y.s) (.slice Ai y.a.length ci) (.slice Di y.b.length di)
              replace X5 := X5.wr3 (r := (w.heap.size + 1)) (by omega) (.bool y.s) (.slice Ai y.a.length ci) (.slice Di y.b.length di)
              replace S := S.wr3 (r := (w.heap.size + 1)) (by omega) (.bool y.s) (.slice Ai y.a.length ci) (.slice Di y.b.length di)
              replace Oz1 := Oz1.wr3b (b := (w.heap.size + 1)) (by omega) (.bool y.s) (.slice Ai y.a.length ci) (.slice Di y.b.length di)
              replace Oz2 := Oz2.wr3b (b := (w.heap.size + 1)) (by omega) (.bool y.s) (.slice Ai y.a.length ci) (.slice Di y.b.length di)
              replace Ox1 := Ox1.wr3b (b := (w.heap.size + 1)) (by omega) (.bool y.s) (.slice Ai y.a.length ci) (.slice Di y.b.length di)
              replace Ox2 := Ox2.wr3b (b := (w.heap.size + 1)) (by omega) (.bool y.s) (.slice Ai y.a.length ci) (.slice Di y.b.length di)
              replace Oy1 := Oy1.wr3b (b := (w.heap.size + 1)) (by omega) (.bool y.s) (.slice Ai y.a.length ci) (.slice Di y.b.length di)
              replace Oy2 := Oy2.wr3b (b := (w.heap.size + 1)) (by omega) (.bool y.s) (.slice Ai y.a.length ci) (.slice Di y.b.length di)
              replace F := F.wr3 (b := (w.heap.size + 1)) (by omega) (Nat.le_of_lt hgw) (.bool y.s) (.slice Ai y.a.length ci) (.slice Di y.b.length di)
              obtain ⟨w34, hw34⟩ : ∃ w34, w34 = Proofs.YtbgggepdlkbpoaaGreatDoor.wr3 w33 (w.heap.size + 1) (.bool y.s) (.slice Ai y.a.length ci) (.slice Di y.b.length di) := ⟨_, rfl⟩
              rw [← hw34] at X2 X3 X5 S F Oz1 Oz2 Ox1 Ox2 Oy1 Oy2
              unfold Proofs.YtbgggepdlkbpoaaGreatDoor.wr3 at hw34
              rw [← hw34]
              clear hw34
              clear m0 mf0 m1 mf1 m2 mf2
              refine hK.out _ _ (.inr ⟨X2.cell 0, X2.cell 1, X2.cell 2, X3.cell 0, X3.cell 1, X3.cell 2⟩) (fun hG => ?_)
              have hHeld := hG.resolve_left (notGone.spec (by rfl))
              clear hK K' hG
              try simp only [List.setIfInBounds_toArray, List.set_cons_zero, List.set_cons_succ]
              refine AnyW.nextT (i := 9) (v := ?_) hq hns (.inr hHeld) rfl rfl (by kernel_rfl) (Or.inl ⟨by rfl, ?_⟩) ?_
              rotate_left
              · intro w' _; go_simp <;> with_reducible rfl
              try simp only [List.setIfInBounds_toArray, List.set_cons_zero, List.set_cons_succ]
              refine AnyW.done (by kernel_rfl) (hQK.out _ _ ?_)
              clear hQK hq hns hHeld
              clear hr1 hr2 hs
              have r0 := X2.cell 0
              have r1 := X2.cell 1
              have r2 := X2.cell 2
              have r3 := X3.cell 0
              have r4 := X3.cell 1
              have r5 := X3.cell 2
              go_wp2_with fail
              refine bodyPost_ret (v := .tuple #[.agg #[.bool x.s, .slice Ar x.a.length cr, .slice Dr x.b.length dr], .agg #[.bool y.s, .slice Ai y.a.length ci, .slice Di y.b.length di], .bool (true && unitB l4)]) (by simp [results, r0, r1, r2, r3, r4, r5, go_sem]) rfl ?_
              rw [HE.out]
              exact ⟨Ar, cr, Dr, dr, Ai, ci, Di, di, _, rfl, Ox1.base_le (by omega), Ox2.base_le (by omega), Oy1.base_le (by omega), Oy2.base_le (by omega), S, F⟩
  · go_wp2_with fail
    have hu := unit_any g s1 _ _ w5 S
    rw [hl1] at hu
    refine hu.mono ?_; rintro e' w6 ⟨rfl, rfl⟩
    clear hu
    by_cases hu1 : unitB l1 = true
    · rw [hu1]
      go_wp2_with fail
      have HE := Lib.hid (num_1 (isD := isDr r) (rd := rdr r) (mk := mkr) (zz := z) (w := e) hx1 hu1)
      replace X2 := X2.dr
      replace X3 := X3.dr
      replace X5 := X5.dr
      replace S := S.dr
      replace F := F.dr
      replace Oz1 := Oz1.dr
      replace Oz2 := Oz2.dr
      refine AnyW.regionQ (fun _ => false) 7 (fun w' => w'.cell? ⟨g5, 0, none⟩ = some (.bool z.s) ∧ w'.cell? ⟨g5, 1, none⟩ = some (.slice Az z.a.length cz) ∧ w'.cell? ⟨g5, 2, none⟩ = some (.slice Dz z.b.length dz)) rfl (by kernel_rfl) (by kernel_rfl) (by (repeat (with_reducible (first | refine quiet_then ?_ | refine quiet_block ?_))); exact quiet_body) ⟨X5.cell 0, X5.cell 1, X5.cell 2⟩ (fun Q' hQK hq hns hHeld => ?_)
      generalize w5.drew = wd at *
      refine AnyW.next (i := 0) (v := ?_) hq hns hHeld rfl rfl (by kernel_rfl) (Or.inl ⟨by rfl, ?_⟩) ?_
      rotate_left
      · intro w' hSw; (try dsimp only at hSw); go_simp <;> with_reducible rfl
      try simp only [List.setIfInBounds_toArray, List.set_cons_zero, List.set_cons_succ]
      refine AnyW.nextT (i := 1) (v := ?_) hq hns (.inr hHeld) rfl rfl (by kernel_rfl) (Or.inl ⟨by rfl, ?_⟩) ?_
      rotate_left
      · intro w' _; go_simp <;> with_reducible rfl
      try simp only [List.setIfInBounds_toArray, List.set_cons_zero, List.set_cons_succ]
      refine AnyW.one 2 (by kernel_rfl) rfl (fun K' hK => ?_)
      go_simp
      have Bk := bal wd (.cells #[.int .u32 (1 : Int)] 55)
      replace F := F.nx Bk (by have := S.lt; omega)
      replace S := S.nx Bk
      replace X2 := X2.nx Bk
      replace X3 := X3.nx Bk
      replace X5 := X5.nx Bk
      replace Oz1 := Oz1.below Bk (Nat.le_refl _)
      replace Oz2 := Oz2.below Bk (Nat.le_refl _)
      clear Bk
      have hW := whole_one neg wd
      obtain ⟨w35, hw35⟩ : ∃ w35, w35 = wd.alloc (.cells #[.int .u32 (1 : Int)] 55) := ⟨_, rfl⟩
      rw [← hw35] at X2 X3 X5 S F Oz1 Oz2 hW
      rw [← hw35]
      clear hw35
      refine hK.out _ _ (.inr ⟨X5.cell 0, X5.cell 1, X5.cell 2⟩) (fun hG => ?_)
      have hHeld := hG.resolve_left (notGone.spec (by rfl))
      clear hK K' hG
      try simp only [List.setIfInBounds_toArray, List.set_cons_zero, List.set_cons_succ]
      refine AnyW.one 3 (by kernel_rfl) rfl (fun K' hK => ?_)
      go_simp
      refine hW.mono ?_; rintro e' w36 ⟨Ao, co, Do, do_, rfl, Oo1, Oo2, BX⟩
      clear hW
      have hzb : w.heap.size + 2 ≤ w35.heap.size := by have := X3.lt; omega
      replace Oo1 := Oo1.base_le hzb
      replace Oo2 := Oo2.base_le hzb
      clear hzb
      go_wp2_with fail
      replace F := F.nx BX (by have := S.lt; omega)
      replace S := S.nx BX
      replace X2 := X2.nx BX
      replace X3 := X3.nx BX
      replace X5 := X5.nx BX
      replace Oz1 := Oz1.below BX (Nat.le_refl _)
      replace Oz2 := Oz2.below BX (Nat.le_refl _)
      clear BX
      obtain ⟨o, ho⟩ : ∃ o, mkr neg [1] [1] = o := ⟨_, rfl⟩
      rw [ho] at Oo1 Oo2 HE ⊢
      clear ho
      refine hK.out _ _ (.inr ⟨X5.cell 0, X5.cell 1, X5.cell 2⟩) (fun hG => ?_)
      have hHeld := hG.resolve_left (notGone.spec (by rfl))
      clear hK K' hG
      try simp only [List.setIfInBounds_toArray, List.set_cons_zero, List.set_cons_succ]
      have m0 := X2.cell 0
      have m1 := X2.cell 1
      have m2 := X2.cell 2
      have mf0 := X2.frozen 0
      have mf1 := X2.frozen 1
      have mf2 := X2.frozen 2
      refine AnyW.one 4 (by kernel_rfl) rfl (fun K' hK => ?_)
      go_simp
      replace X2 := X2.put3 (.bool z.s) (.slice Az z.a.length cz) (.slice Dz z.b.length dz)
      replace X3 := X3.wr3 (r := w.heap.size) (by omega) (.bool z.s) (.slice Az z.a.length cz) (.slice Dz z.b.length dz)
      replace X5 := X5.wr3 (r := w.heap.size) (by omega) (.bool z.s) (.slice Az z.a.length cz) (.slice Dz z.b.length dz)
      replace S := S.wr3 (r := w.heap.size) (by omega) (.bool z.s) (.slice Az z.a.length cz) (.slice Dz z.b.length dz)
      replace Oz1 := Oz1.wr3b (b := w.heap.size) (by omega) (.bool z.s) (.slice Az z.a.length cz) (.slice Dz z.b.length dz)
      replace Oz2 := Oz2.wr3b (b := w.heap.size) (by omega) (.bool z.s) (.slice Az z.a.length cz) (.slice Dz z.b.length dz)
      replace Oo1 := Oo1.wr3b (b := w.heap.size) (by omega) (.bool z.s) (.slice Az z.a.length cz) (.slice Dz z.b.length dz)
      replace Oo2 := Oo2.wr3b (b := w.heap.size) (by omega) (.bool z.s) (.slice Az z.a.length cz) (.slice Dz z.b.length dz)
      replace F := F.wr3 (b := w.heap.size) (by omega) (Nat.le_of_lt hgw) (.bool z.s) (.slice Az z.a.length cz) (.slice Dz z.b.length dz)
      obtain ⟨w37, hw37⟩ : ∃ w37, w37 = Proofs.YtbgggepdlkbpoaaGreatDoor.wr3 w36 w.heap.size (.bool z.s) (.slice Az z.a.length cz) (.slice Dz z.b.length dz) := ⟨_, rfl⟩
      rw [← hw37] at X2 X3 X5 S F Oz1 Oz2 Oo1 Oo2
      unfold Proofs.YtbgggepdlkbpoaaGreatDoor.wr3 at hw37
      rw [← hw37]
      clear hw37
      clear m0 mf0 m1 mf1 m2 mf2
      refine hK.out _ _ (.inr ⟨X5.cell 0, X5.cell 1, X5.cell 2⟩) (fun hG => ?_)
      have hHeld := hG.resolve_left (notGone.spec (by rfl))
      clear hK K' hG
      try simp only [List.setIfInBounds_toArray, List.set_cons_zero, List.set_cons_succ]
      have m0 := X3.cell 0
      have m1 := X3.cell 1
      have m2 := X3.cell 2
      have mf0 := X3.frozen 0
      have mf1 := X3.frozen 1
      have mf2 := X3.frozen 2
      refine AnyW.one 5 (by kernel_rfl) rfl (fun K' hK => ?_)
      go_simp
      replace X2 := X2.wr3 (r := (w.heap.size + 1)) (by omega) (.bool o.s) (.slice Ao o.a.length co) (.slice Do o.b.length do_)
      replace X3 := X3.put3 (.bool o.s) (.slice Ao o.a.length co) (.slice Do o.b.length do_)
      replace X5 := X5.wr3 (r := (w.heap.size + 1)) (by omega) (.bool o.s) (.slice Ao o.a.length co) (.slice Do o.b.length do_)
      replace S := S.wr3 (r := (w.heap.size + 1)) (by omega) (.bool o.s) (.slice Ao o.a.length co) (.slice Do o.b.length do_)
      replace Oz1 := Oz1.wr3b (b := (w.heap.size + 1)) (by omega) (.bool o.s) (.slice Ao o.a.length co) (.slice Do o.b.length do_)
      replace Oz2 := Oz2.wr3b (b := (w.heap.size + 1)) (by omega) (.bool o.s) (.slice Ao o.a.length co) (.slice Do o.b.length do_)
      replace Oo1 := Oo1.wr3b (b := (w.heap.size + 1)) (by omega) (.bool o.s) (.slice Ao o.a.length co) (.slice Do o.b.length do_)
      replace Oo2 := Oo2.wr3b (b := (w.heap.size + 1)) (by omega) (.bool o.s) (.slice Ao o.a.length co) (.slice Do o.b.length do_)
      replace F := F.wr3 (b := (w.heap.size + 1)) (by omega) (Nat.le_of_lt hgw) (.bool o.s) (.slice Ao o.a.length co) (.slice Do o.b.length do_)
      obtain ⟨w38, hw38⟩ : ∃ w38, w38 = Proofs.YtbgggepdlkbpoaaGreatDoor.wr3 w37 (w.heap.size + 1) (.bool o.s) (.slice Ao o.a.length co) (.slice Do o.b.length do_) := ⟨_, rfl⟩
      rw [← hw38] at X2 X3 X5 S F Oz1 Oz2 Oo1 Oo2
      unfold Proofs.YtbgggepdlkbpoaaGreatDoor.wr3 at hw38
      rw [← hw38]
      clear hw38
      clear m0 mf0 m1 mf1 m2 mf2
      refine hK.out _ _ (.inr ⟨X5.cell 0, X5.cell 1, X5.cell 2⟩) (fun hG => ?_)
      have hHeld := hG.resolve_left (notGone.spec (by rfl))
      clear hK K' hG
      try simp only [List.setIfInBounds_toArray, List.set_cons_zero, List.set_cons_succ]
      refine AnyW.nextT (i := 6) (v := ?_) hq hns (.inr hHeld) rfl rfl (by kernel_rfl) (Or.inl ⟨by rfl, ?_⟩) ?_
      rotate_left
      · intro w' _; go_simp <;> with_reducible rfl
      try simp only [List.setIfInBounds_toArray, List.set_cons_zero, List.set_cons_succ]
      refine AnyW.done (by kernel_rfl) (hQK.out _ _ ?_)
      clear hQK hq hns hHeld
      clear hr1 hr2 hs
      have r0 := X2.cell 0
      have r1 := X2.cell 1
      have r2 := X2.cell 2
      have r3 := X3.cell 0
      have r4 := X3.cell 1
      have r5 := X3.cell 2
      go_wp2_with fail
      refine bodyPost_ret (v := .tuple #[.agg #[.bool z.s, .slice Az z.a.length cz, .slice Dz z.b.length dz], .agg #[.bool o.s, .slice Ao o.a.length co, .slice Do o.b.length do_], .bool true]) (by simp [results, r0, r1, r2, r3, r4, r5, go_sem]) rfl ?_
      rw [HE.out]
      exact ⟨Az, cz, Dz, dz, Ao, co, Do, do_, _, rfl, Oz1.base_le (by omega), Oz2.base_le (by omega), Oo1.base_le (by omega), Oo2.base_le (by omega), S, F⟩
    · have hun := Lib.hid hu1
      rw [Bool.eq_false_iff.2 hu1]
      go_wp2_with fail
      have hf := fraction_any g s1 r e neg w5 hl1z hr1 hr2 S
      rw [hl1] at hf
      obtain ⟨x2, hx2⟩ : ∃ x2, fracP (isDr r) (rdr r) mkr neg l1 e = x2 := ⟨_, rfl⟩
      have hfl := fracP_len (r := r) neg l1 e
      rw [hx2] at hf hfl
      obtain ⟨x, ok, l2, e2⟩ := x2
      dsimp only at hf hfl
      have hzb : w.heap.size + 2 ≤ w5.heap.size := by have := X3.lt; omega
      refine hf.mono ?_; rintro e' w6 ⟨Ar, cr, Dr, dr, s2, rfl, Ox1, Ox2, hl2, S', F1⟩
      dsimp only at Ox1 Ox2 hl2 S'
      clear hf S
      have S := S'
      clear S'
      replace X2 := X2.farW F1 (by omega)
      replace X3 := X3.farW F1 (by omega)
      replace X5 := X5.farW F1 (by omega)
      replace Oz1 := Oz1.farW F1 (by omega)
      replace Oz2 := Oz2.farW F1 (by omega)
      replace F := F.trans F1
      clear F1
      replace Ox1 := Ox1.base_le hzb
      replace Ox2 := Ox2.base_le hzb
      clear hzb
      have hl2z : s2.size ≤ 140737488351232 := by have := s_len s2; have h1 := s_len s1; rw [hl2] at this; rw [hl1] at h1; omega
      clear hfl
      clear hl1 hl1z
      have hem := emp_eq s2
      rw [hl2] at hem
      cases ok
      · clear hem
        have ks := S.cell 0
        have m0 := X2.cell 0
        have m1 := X2.cell 1
        have m2 := X2.cell 2
        have mf0 := X2.frozen 0
        have mf1 := X2.frozen 1
        have mf2 := X2.frozen 2
        replace X2 := X2.put3 (.bool x.s) (.slice Ar x.a.length cr) (.slice Dr x.b.length dr)
        replace X3 := X3.wr3 (r := w.heap.size) (by omega) (.bool x.s) (.slice Ar x.a.length cr) (.slice Dr x.b.length dr)
        replace X5 := X5.wr3 (r := w.heap.size) (by omega) (.bool x.s) (.slice Ar x.a.length cr) (.slice Dr x.b.length dr)
        replace S := S.wr3 (r := w.heap.size) (by omega) (.bool x.s) (.slice Ar x.a.length cr) (.slice Dr x.b.length dr)
        replace Oz1 := Oz1.wr3b (b := w.heap.size) (by omega) (.bool x.s) (.slice Ar x.a.length cr) (.slice Dr x.b.length dr)
        replace Oz2 := Oz2.wr3b (b := w.heap.size) (by omega) (.bool x.s) (.slice Ar x.a.length cr) (.slice Dr x.b.length dr)
        replace Ox1 := Ox1.wr3b (b := w.heap.size) (by omega) (.bool x.s) (.slice Ar x.a.length cr) (.slice Dr x.b.length dr)
        replace Ox2 := Ox2.wr3b (b := w.heap.size) (by omega) (.bool x.s) (.slice Ar x.a.length cr) (.slice Dr x.b.length dr)
        replace F := F.wr3 (b := w.heap.size) (by omega) (Nat.le_of_lt hgw) (.bool x.s) (.slice Ar x.a.length cr) (.slice Dr x.b.length dr)
        obtain ⟨w39, hw39⟩ : ∃ w39, w39 = Proofs.YtbgggepdlkbpoaaGreatDoor.wr3 w6 w.heap.size (.bool x.s) (.slice Ar x.a.length cr) (.slice Dr x.b.length dr) := ⟨_, rfl⟩
        rw [← hw39] at X2 X3 X5 S F Oz1 Oz2 Ox1 Ox2
        go_wp2_with fail
        unfold Proofs.YtbgggepdlkbpoaaGreatDoor.wr3 at hw39
        rw [← hw39]
        clear hw39
        clear m0 mf0 m1 mf1 m2 mf2
        clear ks
        have HE := Lib.hid (num_2 (isD := isDr r) (rd := rdr r) (mk := mkr) (zz := z) (w := e) hx1 (fun h => hun.out h.2) hx2 (.inl rfl))
        replace X2 := X2.dr
        replace X3 := X3.dr
        replace X5 := X5.dr
        replace S := S.dr
        replace F := F.dr
        replace Oz1 := Oz1.dr
        replace Oz2 := Oz2.dr
        replace Ox1 := Ox1.dr
        replace Ox2 := Ox2.dr
        refine AnyW.regionQ (fun _ => false) 6 (fun w' => w'.cell? ⟨w.heap.size, 0, none⟩ = some (.bool x.s) ∧ w'.cell? ⟨w.heap.size, 1, none⟩ = some (.slice Ar x.a.length cr) ∧ w'.cell? ⟨w.heap.size, 2, none⟩ = some (.slice Dr x.b.length dr) ∧ w'.cell? ⟨g5, 0, none⟩ = some (.bool z.s) ∧ w'.cell? ⟨g5, 1, none⟩ = some (.slice Az z.a.length cz) ∧ w'.cell? ⟨g5, 2, none⟩ = some (.slice Dz z.b.length dz)) rfl (by kernel_rfl) (by kernel_rfl) (by (repeat (with_reducible (first | refine quiet_then ?_ | refine quiet_block ?_))); exact quiet_body) ⟨X2.cell 0, X2.cell 1, X2.cell 2, X5.cell 0, X5.cell 1, X5.cell 2⟩ (fun Q' hQK hq hns hHeld => ?_)
        generalize w39.drew = wd at *
        refine AnyW.next (i := 0) (v := ?_) hq hns hHeld rfl rfl (by kernel_rfl) (Or.inl ⟨by rfl, ?_⟩) ?_
        rotate_left
        · intro w' hSw; (try dsimp only at hSw); go_simp <;> with_reducible rfl
        try simp only [List.setIfInBounds_toArray, List.set_cons_zero, List.set_cons_succ]
        refine AnyW.next (i := 1) (v := ?_) hq hns hHeld rfl rfl (by kernel_rfl) (Or.inl ⟨by rfl, ?_⟩) ?_
        rotate_left
        · intro w' hSw; (try dsimp only at hSw); go_simp <;> with_reducible rfl
        try simp only [List.setIfInBounds_toArray, List.set_cons_zero, List.set_cons_succ]
        refine AnyW.nextT (i := 2) (v := ?_) hq hns (.inr hHeld) rfl rfl (by kernel_rfl) (Or.inl ⟨by rfl, ?_⟩) ?_
        rotate_left
        · intro w' _; go_simp <;> with_reducible rfl
        try simp only [List.setIfInBounds_toArray, List.set_cons_zero, List.set_cons_succ]
        have m0 := X2.cell 0
        have m1 := X2.cell 1
        have m2 := X2.cell 2
        have mf0 := X2.frozen 0
        have mf1 := X2.frozen 1
        have mf2 := X2.frozen 2
        refine AnyW.one 3 (by kernel_rfl) rfl (fun K' hK => ?_)
        go_simp
        replace X2 := X2.put3 (.bool x.s) (.slice Ar x.a.length cr) (.slice Dr x.b.length dr)
        replace X3 := X3.wr3 (r := w.heap.size) (by omega) (.bool x.s) (.slice Ar x.a.length cr) (.slice Dr x.b.length dr)
        replace X5 := X5.wr3 (r := w.heap.size) (by omega) (.bool x.s) (.slice Ar x.a.length cr) (.slice Dr x.b.length dr)
        replace S := S.wr3 (r := w.heap.size) (by omega) (.bool x.s) (.slice Ar x.a.length cr) (.slice Dr x.b.length dr)
        replace Oz1 := Oz1.wr3b (b := w.heap.size) (by omega) (.bool x.s) (.slice Ar x.a.length cr) (.slice Dr x.b.length dr)
        replace Oz2 := Oz2.wr3b (b := w.heap.size) (by omega) (.bool x.s) (.slice Ar x.a.length cr) (.slice Dr x.b.length dr)
        replace Ox1 := Ox1.wr3b (b := w.heap.size) (by omega) (.bool x.s) (.slice Ar x.a.length cr) (.slice Dr x.b.length dr)
        replace Ox2 := Ox2.wr3b (b := w.heap.size) (by omega) (.bool x.s) (.slice Ar x.a.length cr) (.slice Dr x.b.length dr)
        replace F := F.wr3 (b := w.heap.size) (by omega) (Nat.le_of_lt hgw) (.bool x.s) (.slice Ar x.a.length cr) (.slice Dr x.b.length dr)
        obtain ⟨w40, hw40⟩ : ∃ w40, w40 = Proofs.YtbgggepdlkbpoaaGreatDoor.wr3 wd w.heap.size (.bool x.s) (.slice Ar x.a.length cr) (.slice Dr x.b.length dr) := ⟨_, rfl⟩
        rw [← hw40] at X2 X3 X5 S F Oz1 Oz2 Ox1 Ox2
        unfold Proofs.YtbgggepdlkbpoaaGreatDoor.wr3 at hw40
        rw [← hw40]
        clear hw40
        clear m0 mf0 m1 mf1 m2 mf2
        refine hK.out _ _ (.inr ⟨X2.cell 0, X2.cell 1, X2.cell 2, X5.cell 0, X5.cell 1, X5.cell 2⟩) (fun hG => ?_)
        have hHeld := hG.resolve_left (notGone.spec (by rfl))
        clear hK K' hG
        try simp only [List.setIfInBounds_toArray, List.set_cons_zero, List.set_cons_succ]
        have m0 := X3.cell 0
        have m1 := X3.cell 1
        have m2 := X3.cell 2
        have mf0 := X3.frozen 0
        have mf1 := X3.frozen 1
        have mf2 := X3.frozen 2
        refine AnyW.one 4 (by kernel_rfl) rfl (fun K' hK => ?_)
        go_simp
        replace X2 := X2.wr3 (r := (w.heap.size + 1)) (by omega) (.bool z.s) (.slice Az z.a.length cz) (.slice Dz z.b.length dz)
        replace X3 := X3.put3 (.bool z.s) (.slice Az z.a.length cz) (.slice Dz z.b.length dz)
        replace X5 := X5.wr3 (r := (w.heap.size + 1)) (by omega) (.bool z.s) (.slice Az z.a.length cz) (.slice Dz z.b.length dz)
        replace S := S.wr3 (r := (w.heap.size + 1)) (by omega) (.bool z.s) (.slice Az z.a.length cz) (.slice Dz z.b.length dz)
        replace Oz1 := Oz1.wr3b (b := (w.heap.size + 1)) (by omega) (.bool z.s) (.slice Az z.a.length cz) (.slice Dz z.b.length dz)
        replace Oz2 := Oz2.wr3b (b := (w.heap.size + 1)) (by omega) (.bool z.s) (.slice Az z.a.length cz) (.slice Dz z.b.length dz)
        replace Ox1 := Ox1.wr3b (b := (w.heap.size + 1)) (by omega) (.bool z.s) (.slice Az z.a.length cz) (.slice Dz z.b.length dz)
        replace Ox2 := Ox2.wr3b (b := (w.heap.size + 1)) (by omega) (.bool z.s) (.slice Az z.a.length cz) (.slice Dz z.b.length dz)
        replace F := F.wr3 (b := (w.heap.size + 1)) (by omega) (Nat.le_of_lt hgw) (.bool z.s) (.slice Az z.a.length cz) (.slice Dz z.b.length dz)
        obtain ⟨w41, hw41⟩ : ∃ w41, w41 = Proofs.YtbgggepdlkbpoaaGreatDoor.wr3 w40 (w.heap.size + 1) (.bool z.s) (.slice Az z.a.length cz) (.slice Dz z.b.length dz) := ⟨_, rfl⟩
        rw [← hw41] at X2 X3 X5 S F Oz1 Oz2 Ox1 Ox2
        unfold Proofs.YtbgggepdlkbpoaaGreatDoor.wr3 at hw41
        rw [← hw41]
        clear hw41
        clear m0 mf0 m1 mf1 m2 mf2
        refine hK.out _ _ (.inr ⟨X2.cell 0, X2.cell 1, X2.cell 2, X5.cell 0, X5.cell 1, X5.cell 2⟩) (fun hG => ?_)
        have hHeld := hG.resolve_left (notGone.spec (by rfl))
        clear hK K' hG
        try simp only [List.setIfInBounds_toArray, List.set_cons_zero, List.set_cons_succ]
        refine AnyW.nextT (i := 5) (v := ?_) hq hns (.inr hHeld) rfl rfl (by kernel_rfl) (Or.inl ⟨by rfl, ?_⟩) ?_
        rotate_left
        · intro w' _; go_simp <;> with_reducible rfl
        try simp only [List.setIfInBounds_toArray, List.set_cons_zero, List.set_cons_succ]
        refine AnyW.done (by kernel_rfl) (hQK.out _ _ ?_)
        clear hQK hq hns hHeld
        clear hr1 hr2 hs
        have r0 := X2.cell 0
        have r1 := X2.cell 1
        have r2 := X2.cell 2
        have r3 := X3.cell 0
        have r4 := X3.cell 1
        have r5 := X3.cell 2
        go_wp2_with fail
        refine bodyPost_ret (v := .tuple #[.agg #[.bool x.s, .slice Ar x.a.length cr, .slice Dr x.b.length dr], .agg #[.bool z.s, .slice Az z.a.length cz, .slice Dz z.b.length dz], .bool false]) (by simp [results, r0, r1, r2, r3, r4, r5, go_sem]) rfl ?_
        rw [HE.out]
        exact ⟨Ar, cr, Dr, dr, Az, cz, Dz, dz, _, rfl, Ox1.base_le (by omega), Ox2.base_le (by omega), Oz1.base_le (by omega), Oz2.base_le (by omega), S, F⟩
      · by_cases hn : l2 = []
        · rw [decide_eq_true hn] at hem
          have ks := S.cell 0
          have m0 := X2.cell 0
          have m1 := X2.cell 1
          have m2 := X2.cell 2
          have mf0 := X2.frozen 0
          have mf1 := X2.frozen 1
          have mf2 := X2.frozen 2
          replace X2 := X2.put3 (.bool x.s) (.slice Ar x.a.length cr) (.slice Dr x.b.length dr)
          replace X3 := X3.wr3 (r := w.heap.size) (by omega) (.bool x.s) (.slice Ar x.a.length cr) (.slice Dr x.b.length dr)
          replace X5 := X5.wr3 (r := w.heap.size) (by omega) (.bool x.s) (.slice Ar x.a.length cr) (.slice Dr x.b.length dr)
          replace S := S.wr3 (r := w.heap.size) (by omega) (.bool x.s) (.slice Ar x.a.length cr) (.slice Dr x.b.length dr)
          replace Oz1 := Oz1.wr3b (b := w.heap.size) (by omega) (.bool x.s) (.slice Ar x.a.length cr) (.slice Dr x.b.length dr)
          replace Oz2 := Oz2.wr3b (b := w.heap.size) (by omega) (.bool x.s) (.slice Ar x.a.length cr) (.slice Dr x.b.length dr)
          replace Ox1 := Ox1.wr3b (b := w.heap.size) (by omega) (.bool x.s) (.slice Ar x.a.length cr) (.slice Dr x.b.length dr)
          replace Ox2 := Ox2.wr3b (b := w.heap.size) (by omega) (.bool x.s) (.slice Ar x.a.length cr) (.slice Dr x.b.length dr)
          replace F := F.wr3 (b := w.heap.size) (by omega) (Nat.le_of_lt hgw) (.bool x.s) (.slice Ar x.a.length cr) (.slice Dr x.b.length dr)
          obtain ⟨w42, hw42⟩ : ∃ w42, w42 = Proofs.YtbgggepdlkbpoaaGreatDoor.wr3 w6 w.heap.size (.bool x.s) (.slice Ar x.a.length cr) (.slice Dr x.b.length dr) := ⟨_, rfl⟩
          rw [← hw42] at X2 X3 X5 S F Oz1 Oz2 Ox1 Ox2
          go_wp2_with fail
          unfold Proofs.YtbgggepdlkbpoaaGreatDoor.wr3 at hw42
          rw [← hw42]
          clear hw42
          clear m0 mf0 m1 mf1 m2 mf2
          clear ks
          clear hem
          have HE := Lib.hid (num_2 (isD := isDr r) (rd := rdr r) (mk := mkr) (zz := z) (w := e) hx1 (fun h => hun.out h.2) hx2 (.inr hn))
          replace X2 := X2.dr
          replace X3 := X3.dr
          replace X5 := X5.dr
          replace S := S.dr
          replace F := F.dr
          replace Oz1 := Oz1.dr
          replace Oz2 := Oz2.dr
          replace Ox1 := Ox1.dr
          replace Ox2 := Ox2.dr
          refine AnyW.regionQ (fun _ => false) 6 (fun w' => w'.cell? ⟨w.heap.size, 0, none⟩ = some (.bool x.s) ∧ w'.cell? ⟨w.heap.size, 1, none⟩ = some (.slice Ar x.a.length cr) ∧ w'.cell? ⟨w.heap.size, 2, none⟩ = some (.slice Dr x.b.length dr) ∧ w'.cell? ⟨g5, 0, none⟩ = some (.bool z.s) ∧ w'.cell? ⟨g5, 1, none⟩ = some (.slice Az z.a.length cz) ∧ w'.cell? ⟨g5, 2, none⟩ = some (.slice Dz z.b.length dz)) rfl (by kernel_rfl) (by kernel_rfl) (by (repeat (with_reducible (first | refine quiet_then ?_ | refine quiet_block ?_))); exact quiet_body) ⟨X2.cell 0, X2.cell 1, X2.cell 2, X5.cell 0, X5.cell 1, X5.cell 2⟩ (fun Q' hQK hq hns hHeld => ?_)
          generalize w42.drew = wd at *
          refine AnyW.next (i := 0) (v := ?_) hq hns hHeld rfl rfl (by kernel_rfl) (Or.inl ⟨by rfl, ?_⟩) ?_
          rotate_left
          · intro w' hSw; (try dsimp only at hSw); go_simp <;> with_reducible rfl
          try simp only [List.setIfInBounds_toArray, List.set_cons_zero, List.set_cons_succ]
          refine AnyW.next (i := 1) (v := ?_) hq hns hHeld rfl rfl (by kernel_rfl) (Or.inl ⟨by rfl, ?_⟩) ?_
          rotate_left
          · intro w' hSw; (try dsimp only at hSw); go_simp <;> with_reducible rfl
          try simp only [List.setIfInBounds_toArray, List.set_cons_zero, List.set_cons_succ]
          refine AnyW.nextT (i := 2) (v := ?_) hq hns (.inr hHeld) rfl rfl (by kernel_rfl) (Or.inl ⟨by rfl, ?_⟩) ?_
          rotate_left
          · intro w' _; go_simp <;> with_reducible rfl
          try simp only [List.setIfInBounds_toArray, List.set_cons_zero, List.set_cons_succ]
          have m0 := X2.cell 0
          have m1 := X2.cell 1
          have m2 := X2.cell 2
          have mf0 := X2.frozen 0
          have mf1 := X2.frozen 1
          have mf2 := X2.frozen 2
          refine AnyW.one 3 (by kernel_rfl) rfl (fun K' hK => ?_)
          go_simp
          replace X2 := X2.put3 (.bool x.s) (.slice Ar x.a.length cr) (.slice Dr x.b.length dr)
          replace X3 := X3.wr3 (r := w.heap.size) (by omega) (.bool x.s) (.slice Ar x.a.length cr) (.slice Dr x.b.length dr)
          replace X5 := X5.wr3 (r := w.heap.size) (by omega) (.bool x.s) (.slice Ar x.a.length cr) (.slice Dr x.b.length dr)
          replace S := S.wr3 (r := w.heap.size) (by omega) (.bool x.s) (.slice Ar x.a.length cr) (.slice Dr x.b.length dr)
          replace Oz1 := Oz1.wr3b (b := w.heap.size) (by omega) (.bool x.s) (.slice Ar x.a.length cr) (.slice Dr x.b.length dr)
          replace Oz2 := Oz2.wr3b (b := w.heap.size) (by omega) (.bool x.s) (.slice Ar x.a.length cr) (.slice Dr x.b.length dr)
          replace Ox1 := Ox1.wr3b (b := w.heap.size) (by omega) (.bool x.s) (.slice Ar x.a.length cr) (.slice Dr x.b.length dr)
          replace Ox2 := Ox2.wr3b (b := w.heap.size) (by omega) (.bool x.s) (.slice Ar x.a.length cr) (.slice Dr x.b.length dr)
          replace F := F.wr3 (b := w.heap.size) (by omega) (Nat.le_of_lt hgw) (.bool x.s) (.slice Ar x.a.length cr) (.slice Dr x.b.length dr)
          obtain ⟨w43, hw43⟩ : ∃ w43, w43 = Proofs.YtbgggepdlkbpoaaGreatDoor.wr3 wd w.heap.size (.bool x.s) (.slice Ar x.a.length cr) (.slice Dr x.b.length dr) := ⟨_, rfl⟩
          rw [← hw43] at X2 X3 X5 S F Oz1 Oz2 Ox1 Ox2
          unfold Proofs.YtbgggepdlkbpoaaGreatDoor.wr3 at hw43
          rw [← hw43]
          clear hw43
          clear m0 mf0 m1 mf1 m2 mf2
          refine hK.out _ _ (.inr ⟨X2.cell 0, X2.cell 1, X2.cell 2, X5.cell 0, X5.cell 1, X5.cell 2⟩) (fun hG => ?_)
          have hHeld := hG.resolve_left (notGone.spec (by rfl))
          clear hK K' hG
          try simp only [List.setIfInBounds_toArray, List.set_cons_zero, List.set_cons_succ]
          have m0 := X3.cell 0
          have m1 := X3.cell 1
          have m2 := X3.cell 2
          have mf0 := X3.frozen 0
          have mf1 := X3.frozen 1
          have mf2 := X3.frozen 2
          refine AnyW.one 4 (by kernel_rfl) rfl (fun K' hK => ?_)
          go_simp
          replace X2 := X2.wr3 (r := (w.heap.size + 1)) (by omega) (.bool z.s) (.slice Az z.a.length cz) (.slice Dz z.b.length dz)
          replace X3 := X3.put3 (.bool z.s) (.slice Az z.a.length cz) (.slice Dz z.b.length dz)
          replace X5 := X5.wr3 (r := (w.heap.size + 1)) (by omega) (.bool z.s) (.slice Az z.a.length cz) (.slice Dz z.b.length dz)
          replace S := S.wr3 (r := (w.heap.size + 1)) (by omega) (.bool z.s) (.slice Az z.a.length cz) (.slice Dz z.b.length dz)
          replace Oz1 := Oz1.wr3b (b := (w.heap.size + 1)) (by omega) (.bool z.s) (.slice Az z.a.length cz) (.slice Dz z.b.length dz)
          replace Oz2 := Oz2.wr3b (b := (w.heap.size + 1)) (by omega) (.bool z.s) (.slice Az z.a.length cz) (.slice Dz z.b.length dz)
          replace Ox1 := Ox1.wr3b (b := (w.heap.size + 1)) (by omega) (.bool z.s) (.slice Az z.a.length cz) (.slice Dz z.b.length dz)
          replace Ox2 := Ox2.wr3b (b := (w.heap.size + 1)) (by omega) (.bool z.s) (.slice Az z.a.length cz) (.slice Dz z.b.length dz)
          replace F := F.wr3 (b := (w.heap.size + 1)) (by omega) (Nat.le_of_lt hgw) (.bool z.s) (.slice Az z.a.length cz) (.slice Dz z.b.length dz)
          obtain ⟨w44, hw44⟩ : ∃ w44, w44 = Proofs.YtbgggepdlkbpoaaGreatDoor.wr3 w43 (w.heap.size + 1) (.bool z.s) (.slice Az z.a.length cz) (.slice Dz z.b.length dz) := ⟨_, rfl⟩
          rw [← hw44] at X2 X3 X5 S F Oz1 Oz2 Ox1 Ox2
          unfold Proofs.YtbgggepdlkbpoaaGreatDoor.wr3 at hw44
          rw [← hw44]
          clear hw44
          clear m0 mf0 m1 mf1 m2 mf2
          refine hK.out _ _ (.inr ⟨X2.cell 0, X2.cell 1, X2.cell 2, X5.cell 0, X5.cell 1, X5.cell 2⟩) (fun hG => ?_)
          have hHeld := hG.resolve_left (notGone.spec (by rfl))
          clear hK K' hG
          try simp only [List.setIfInBounds_toArray, List.set_cons_zero, List.set_cons_succ]
          refine AnyW.nextT (i := 5) (v := ?_) hq hns (.inr hHeld) rfl rfl (by kernel_rfl) (Or.inl ⟨by rfl, ?_⟩) ?_
          rotate_left
          · intro w' _; go_simp <;> with_reducible rfl
          try simp only [List.setIfInBounds_toArray, List.set_cons_zero, List.set_cons_succ]
          refine AnyW.done (by kernel_rfl) (hQK.out _ _ ?_)
          clear hQK hq hns hHeld
          clear hr1 hr2 hs
          have r0 := X2.cell 0
          have r1 := X2.cell 1
          have r2 := X2.cell 2
          have r3 := X3.cell 0
          have r4 := X3.cell 1
          have r5 := X3.cell 2
          go_wp2_with fail
          refine bodyPost_ret (v := .tuple #[.agg #[.bool x.s, .slice Ar x.a.length cr, .slice Dr x.b.length dr], .agg #[.bool z.s, .slice Az z.a.length cz, .slice Dz z.b.length dz], .bool true]) (by simp [results, r0, r1, r2, r3, r4, r5, go_sem]) rfl ?_
          rw [HE.out]
          exact ⟨Ar, cr, Dr, dr, Az, cz, Dz, dz, _, rfl, Ox1.base_le (by omega), Ox2.base_le (by omega), Oz1.base_le (by omega), Oz2.base_le (by omega), S, F⟩
        · rw [decide_eq_false hn] at hem
          have hn2 := Lib.hid hn
          have ks := S.cell 0
          have m0 := X2.cell 0
          have m1 := X2.cell 1
          have m2 := X2.cell 2
          have mf0 := X2.frozen 0
          have mf1 := X2.frozen 1
          have mf2 := X2.frozen 2
          replace X2 := X2.put3 (.bool x.s) (.slice Ar x.a.length cr) (.slice Dr x.b.length dr)
          replace X3 := X3.wr3 (r := w.heap.size) (by omega) (.bool x.s) (.slice Ar x.a.length cr) (.slice Dr x.b.length dr)
          replace X5 := X5.wr3 (r := w.heap.size) (by omega) (.bool x.s) (.slice Ar x.a.length cr) (.slice Dr x.b.length dr)
          replace S := S.wr3 (r := w.heap.size) (by omega) (.bool x.s) (.slice Ar x.a.length cr) (.slice Dr x.b.length dr)
          replace Oz1 := Oz1.wr3b (b := w.heap.size) (by omega) (.bool x.s) (.slice Ar x.a.length cr) (.slice Dr x.b.length dr)
          replace Oz2 := Oz2.wr3b (b := w.heap.size) (by omega) (.bool x.s) (.slice Ar x.a.length cr) (.slice Dr x.b.length dr)
          replace Ox1 := Ox1.wr3b (b := w.heap.size) (by omega) (.bool x.s) (.slice Ar x.a.length cr) (.slice Dr x.b.length dr)
          replace Ox2 := Ox2.wr3b (b := w.heap.size) (by omega) (.bool x.s) (.slice Ar x.a.length cr) (.slice Dr x.b.length dr)
          replace F := F.wr3 (b := w.heap.size) (by omega) (Nat.le_of_lt hgw) (.bool x.s) (.slice Ar x.a.length cr) (.slice Dr x.b.length dr)
          obtain ⟨w45, hw45⟩ : ∃ w45, w45 = Proofs.YtbgggepdlkbpoaaGreatDoor.wr3 w6 w.heap.size (.bool x.s) (.slice Ar x.a.length cr) (.slice Dr x.b.length dr) := ⟨_, rfl⟩
          rw [← hw45] at X2 X3 X5 S F Oz1 Oz2 Ox1 Ox2
          go_wp2_with fail
          unfold Proofs.YtbgggepdlkbpoaaGreatDoor.wr3 at hw45
          rw [← hw45]
          clear hw45
          clear m0 mf0 m1 mf1 m2 mf2
          clear ks
          clear hem hn
          have hv := unit_any g s2 _ _ w45 S
          rw [hl2] at hv
          refine hv.mono ?_; rintro e' w9 ⟨rfl, rfl⟩
          clear hv
          by_cases hu2 : unitB l2 = true
          · rw [hu2]
            have HE := Lib.hid (num_3 (isD := isDr r) (rd := rdr r) (mk := mkr) (zz := z) (w := e) hx1 (fun h => hun.out h.2) hx2 (by simp [hn2.out]) ⟨rfl, hu2⟩)
            have m0 := X2.cell 0
            have m1 := X2.cell 1
            have m2 := X2.cell 2
            have mf0 := X2.frozen 0
            have mf1 := X2.frozen 1
            have mf2 := X2.frozen 2
            have n0 := X3.cell 0
            have n1 := X3.cell 1
            have n2 := X3.cell 2
            have nf0 := X3.frozen 0
            have nf1 := X3.frozen 1
            have nf2 := X3.frozen 2
            have k0 := X5.cell 0
            have k1 := X5.cell 1
            have k2 := X5.cell 2
            replace X2 := X2.put3 (.bool z.s) (.slice Az z.a.length cz) (.slice Dz z.b.length dz)
            replace X3 := X3.wr3 (r := w.heap.size) (by omega) (.bool z.s) (.slice Az z.a.length cz) (.slice Dz z.b.length dz)
            replace X5 := X5.wr3 (r := w.heap.size) (by omega) (.bool z.s) (.slice Az z.a.length cz) (.slice Dz z.b.length dz)
            replace S := S.wr3 (r := w.heap.size) (by omega) (.bool z.s) (.slice Az z.a.length cz) (.slice Dz z.b.length dz)
            replace Oz1 := Oz1.wr3b (b := w.heap.size) (by omega) (.bool z.s) (.slice Az z.a.length cz) (.slice Dz z.b.length dz)
            replace Oz2 := Oz2.wr3b (b := w.heap.size) (by omega) (.bool z.s) (.slice Az z.a.length cz) (.slice Dz z.b.length dz)
            replace Ox1 := Ox1.wr3b (b := w.heap.size) (by omega) (.bool z.s) (.slice Az z.a.length cz) (.slice Dz z.b.length dz)
            replace Ox2 := Ox2.wr3b (b := w.heap.size) (by omega) (.bool z.s) (.slice Az z.a.length cz) (.slice Dz z.b.length dz)
            replace F := F.wr3 (b := w.heap.size) (by omega) (Nat.le_of_lt hgw) (.bool z.s) (.slice Az z.a.length cz) (.slice Dz z.b.length dz)
            obtain ⟨w46, hw46⟩ : ∃ w46, w46 = Proofs.YtbgggepdlkbpoaaGreatDoor.wr3 w45 w.heap.size (.bool z.s) (.slice Az z.a.length cz) (.slice Dz z.b.length dz) := ⟨_, rfl⟩
            rw [← hw46] at X2 X3 X5 S F Oz1 Oz2 Ox1 Ox2
            replace X2 := X2.wr3 (r := (w.heap.size + 1)) (by omega) (.bool x.s) (.slice Ar x.a.length cr) (.slice Dr x.b.length dr)
            replace X3 := X3.put3 (.bool x.s) (.slice Ar x.a.length cr) (.slice Dr x.b.length dr)
            replace X5 := X5.wr3 (r := (w.heap.size + 1)) (by omega) (.bool x.s) (.slice Ar x.a.length cr) (.slice Dr x.b.length dr)
            replace S := S.wr3 (r := (w.heap.size + 1)) (by omega) (.bool x.s) (.slice Ar x.a.length cr) (.slice Dr x.b.length dr)
            replace Oz1 := Oz1.wr3b (b := (w.heap.size + 1)) (by omega) (.bool x.s) (.slice Ar x.a.length cr) (.slice Dr x.b.length dr)
            replace Oz2 := Oz2.wr3b (b := (w.heap.size + 1)) (by omega) (.bool x.s) (.slice Ar x.a.length cr) (.slice Dr x.b.length dr)
            replace Ox1 := Ox1.wr3b (b := (w.heap.size + 1)) (by omega) (.bool x.s) (.slice Ar x.a.length cr) (.slice Dr x.b.length dr)
            replace Ox2 := Ox2.wr3b (b := (w.heap.size + 1)) (by omega) (.bool x.s) (.slice Ar x.a.length cr) (.slice Dr x.b.length dr)
            replace F := F.wr3 (b := (w.heap.size + 1)) (by omega) (Nat.le_of_lt hgw) (.bool x.s) (.slice Ar x.a.length cr) (.slice Dr x.b.length dr)
            obtain ⟨w47, hw47⟩ : ∃ w47, w47 = Proofs.YtbgggepdlkbpoaaGreatDoor.wr3 w46 (w.heap.size + 1) (.bool x.s) (.slice Ar x.a.length cr) (.slice Dr x.b.length dr) := ⟨_, rfl⟩
            rw [← hw47] at X2 X3 X5 S F Oz1 Oz2 Ox1 Ox2
            unfold Proofs.YtbgggepdlkbpoaaGreatDoor.wr3 at hw46 hw47
            rw [hw46] at hw47
            go_wp2_with fail
            rw [← hw47]
            clear m0 mf0 m1 mf1 m2 mf2 n0 nf0 n1 nf1 n2 nf2
            clear k0 k1 k2
            clear hw47 hw46
            clear hr1 hr2 hs
            have r0 := X2.cell 0
            have r1 := X2.cell 1
            have r2 := X2.cell 2
            have r3 := X3.cell 0
            have r4 := X3.cell 1
            have r5 := X3.cell 2
            refine bodyPost_ret (v := .tuple #[.agg #[.bool z.s, .slice Az z.a.length cz, .slice Dz z.b.length dz], .agg #[.bool x.s, .slice Ar x.a.length cr, .slice Dr x.b.length dr], .bool true]) (by simp [results, r0, r1, r2, r3, r4, r5, go_sem]) rfl ?_
            rw [HE.out]
            exact ⟨Az, cz, Dz, dz, Ar, cr, Dr, dr, _, rfl, Oz1.base_le (by omega), Oz2.base_le (by omega), Ox1.base_le (by omega), Ox2.base_le (by omega), S, F⟩
          · have hun2 := Lib.hid hu2
            rw [Bool.eq_false_iff.2 hu2]
            go_wp2_with fail
            have h1 := sign_any g s2 _ _ w45 S
            obtain ⟨x1, hx3⟩ : ∃ x1, sgnP s2.data.toList = x1 := ⟨_, rfl⟩
            have hs3 := (sgnP_len s2.data.toList)
            rw [hx3] at h1 hs3
            rw [hl2] at hx3
            obtain ⟨neg2, sg2, l3⟩ := x1
            dsimp only at h1 hs3
            refine h1.mono ?_; rintro e' w8 ⟨rfl, s3, hl3, S', F1⟩
            clear h1 S
            have S := S'
            clear S'
            replace X2 := X2.farW F1 (by omega)
            replace X3 := X3.farW F1 (by omega)
            replace X5 := X5.farW F1 (by omega)
            replace Oz1 := Oz1.farW F1 (by omega)
            replace Oz2 := Oz2.farW F1 (by omega)
            replace Ox1 := Ox1.farW F1 (by omega)
            replace Ox2 := Ox2.farW F1 (by omega)
            replace F := F.trans F1
            clear F1
            dsimp only at hl3
            have hl3z : s3.size ≤ 140737488351232 := by have h4 := s_len s3; have h5 := s_len s2; rw [hl3] at h4; omega
            clear hs3 hl2 hl2z
            cases sg2
            · go_wp2_with fail
              have HE := Lib.hid (num_4 (isD := isDr r) (rd := rdr r) (mk := mkr) (zz := z) (w := e) hx1 (fun h => hun.out h.2) hx2 (by simp [hn2.out]) (fun h => hun2.out h.2) hx3)
              replace X2 := X2.dr
              replace X3 := X3.dr
              replace X5 := X5.dr
              replace S := S.dr
              replace F := F.dr
              replace Oz1 := Oz1.dr
              replace Oz2 := Oz2.dr
              replace Ox1 := Ox1.dr
              replace Ox2 := Ox2.dr
              refine AnyW.regionQ (fun _ => false) 5 (fun w' => w'.cell? ⟨g5, 0, none⟩ = some (.bool z.s) ∧ w'.cell? ⟨g5, 1, none⟩ = some (.slice Az z.a.length cz) ∧ w'.cell? ⟨g5, 2, none⟩ = some (.slice Dz z.b.length dz)) rfl (by kernel_rfl) (by kernel_rfl) (by (repeat (with_reducible (first | refine quiet_then ?_ | refine quiet_block ?_))); exact quiet_body) ⟨X5.cell 0, X5.cell 1, X5.cell 2⟩ (fun Q' hQK hq hns hHeld => ?_)
              generalize w8.drew = wd at *
              refine AnyW.next (i := 0) (v := ?_) hq hns hHeld rfl rfl (by kernel_rfl) (Or.inl ⟨by rfl, ?_⟩) ?_
              rotate_left
              · intro w' hSw; (try dsimp only at hSw); go_simp <;> with_reducible rfl
              try simp only [List.setIfInBounds_toArray, List.set_cons_zero, List.set_cons_succ]
              refine AnyW.next (i := 1) (v := ?_) hq hns hHeld rfl rfl (by kernel_rfl) (Or.inl ⟨by rfl, ?_⟩) ?_
              rotate_left
              · intro w' hSw; (try dsimp only at hSw); go_simp <;> with_reducible rfl
              try simp only [List.setIfInBounds_toArray, List.set_cons_zero, List.set_cons_succ]
              have m0 := X2.cell 0
              have m1 := X2.cell 1
              have m2 := X2.cell 2
              have mf0 := X2.frozen 0
              have mf1 := X2.frozen 1
              have mf2 := X2.frozen 2
              refine AnyW.one 2 (by kernel_rfl) rfl (fun K' hK => ?_)
              go_simp
              replace X2 := X2.put3 (.bool z.s) (.slice Az z.a.length cz) (.slice Dz z.b.length dz)
              replace X3 := X3.wr3 (r := w.heap.size) (by omega) (.bool z.s) (.slice Az z.a.length cz) (.slice Dz z.b.length dz)
              replace X5 := X5.wr3 (r := w.heap.size) (by omega) (.bool z.s) (.slice Az z.a.length cz) (.slice Dz z.b.length dz)
              replace S := S.wr3 (r := w.heap.size) (by omega) (.bool z.s) (.slice Az z.a.length cz) (.slice Dz z.b.length dz)
              replace Oz1 := Oz1.wr3b (b := w.heap.size) (by omega) (.bool z.s) (.slice Az z.a.length cz) (.slice Dz z.b.length dz)
              replace Oz2 := Oz2.wr3b (b := w.heap.size) (by omega) (.bool z.s) (.slice Az z.a.length cz) (.slice Dz z.b.length dz)
              replace Ox1 := Ox1.wr3b (b := w.heap.size) (by omega) (.bool z.s) (.slice Az z.a.length cz) (.slice Dz z.b.length dz)
              replace Ox2 := Ox2.wr3b (b := w.heap.size) (by omega) (.bool z.s) (.slice Az z.a.length cz) (.slice Dz z.b.length dz)
              replace F := F.wr3 (b := w.heap.size) (by omega) (Nat.le_of_lt hgw) (.bool z.s) (.slice Az z.a.length cz) (.slice Dz z.b.length dz)
              obtain ⟨w48, hw48⟩ : ∃ w48, w48 = Proofs.YtbgggepdlkbpoaaGreatDoor.wr3 wd w.heap.size (.bool z.s) (.slice Az z.a.length cz) (.slice Dz z.b.length dz) := ⟨_, rfl⟩
              rw [← hw48] at X2 X3 X5 S F Oz1 Oz2 Ox1 Ox2
              unfold Proofs.YtbgggepdlkbpoaaGreatDoor.wr3 at hw48
              rw [← hw48]
              clear hw48
              clear m0 mf0 m1 mf1 m2 mf2
              refine hK.out _ _ (.inr ⟨X5.cell 0, X5.cell 1, X5.cell 2⟩) (fun hG => ?_)
              have hHeld := hG.resolve_left (notGone.spec (by rfl))
              clear hK K' hG
              try simp only [List.setIfInBounds_toArray, List.set_cons_zero, List.set_cons_succ]
              have m0 := X3.cell 0
              have m1 := X3.cell 1
              have m2 := X3.cell 2
              have mf0 := X3.frozen 0
              have mf1 := X3.frozen 1
              have mf2 := X3.frozen 2
              refine AnyW.one 3 (by kernel_rfl) rfl (fun K' hK => ?_)
              go_simp
              replace X2 := X2.wr3 (r := (w.heap.size + 1)) (by omega) (.bool z.s) (.slice Az z.a.length cz) (.slice Dz z.b.length dz)
              replace X3 := X3.put3 (.bool z.s) (.slice Az z.a.length cz) (.slice Dz z.b.length dz)
              replace X5 := X5.wr3 (r := (w.heap.size + 1)) (by omega) (.bool z.s) (.slice Az z.a.length cz) (.slice Dz z.b.length dz)
              replace S := S.wr3 (r := (w.heap.size + 1)) (by omega) (.bool z.s) (.slice Az z.a.length cz) (.slice Dz z.b.length dz)
              replace Oz1 := Oz1.wr3b (b := (w.heap.size + 1)) (by omega) (.bool z.s) (.slice Az z.a.length cz) (.slice Dz z.b.length dz)
              replace Oz2 := Oz2.wr3b (b := (w.heap.size + 1)) (by omega) (.bool z.s) (.slice Az z.a.length cz) (.slice Dz z.b.length dz)
              replace Ox1 := Ox1.wr3b (b := (w.heap.size + 1)) (by omega) (.bool z.s) (.slice Az z.a.length cz) (.slice Dz z.b.length dz)
              replace Ox2 := Ox2.wr3b (b := (w.heap.size + 1)) (by omega) (.bool z.s) (.slice Az z.a.length cz) (.slice Dz z.b.length dz)
              replace F := F.wr3 (b := (w.heap.size + 1)) (by omega) (Nat.le_of_lt hgw) (.bool z.s) (.slice Az z.a.length cz) (.slice Dz z.b.length dz)
              obtain ⟨w49, hw49⟩ : ∃ w49, w49 = Proofs.YtbgggepdlkbpoaaGreatDoor.wr3 w48 (w.heap.size + 1) (.bool z.s) (.slice Az z.a.length cz) (.slice Dz z.b.length dz) := ⟨_, rfl⟩
              rw [← hw49] at X2 X3 X5 S F Oz1 Oz2 Ox1 Ox2
              unfold Proofs.YtbgggepdlkbpoaaGreatDoor.wr3 at hw49
              rw [← hw49]
              clear hw49
              clear m0 mf0 m1 mf1 m2 mf2
              refine hK.out _ _ (.inr ⟨X5.cell 0, X5.cell 1, X5.cell 2⟩) (fun hG => ?_)
              have hHeld := hG.resolve_left (notGone.spec (by rfl))
              clear hK K' hG
              try simp only [List.setIfInBounds_toArray, List.set_cons_zero, List.set_cons_succ]
              refine AnyW.nextT (i := 4) (v := ?_) hq hns (.inr hHeld) rfl rfl (by kernel_rfl) (Or.inl ⟨by rfl, ?_⟩) ?_
              rotate_left
              · intro w' _; go_simp <;> with_reducible rfl
              try simp only [List.setIfInBounds_toArray, List.set_cons_zero, List.set_cons_succ]
              refine AnyW.done (by kernel_rfl) (hQK.out _ _ ?_)
              clear hQK hq hns hHeld
              clear hr1 hr2 hs
              have r0 := X2.cell 0
              have r1 := X2.cell 1
              have r2 := X2.cell 2
              have r3 := X3.cell 0
              have r4 := X3.cell 1
              have r5 := X3.cell 2
              go_wp2_with fail
              refine bodyPost_ret (v := .tuple #[.agg #[.bool z.s, .slice Az z.a.length cz, .slice Dz z.b.length dz], .agg #[.bool z.s, .slice Az z.a.length cz, .slice Dz z.b.length dz], .bool false]) (by simp [results, r0, r1, r2, r3, r4, r5, go_sem]) rfl ?_
              rw [HE.out]
              exact ⟨Az, cz, Dz, dz, Az, cz, Dz, dz, _, rfl, Oz1.base_le (by omega), Oz2.base_le (by omega), Oz1.base_le (by omega), Oz2.base_le (by omega), S, F⟩
            · go_wp2_with fail
              have hv := unit_any g s3 _ _ w8 S
              rw [hl3] at hv
              refine hv.mono ?_; rintro e' w9 ⟨rfl, rfl⟩
              clear hv
              by_cases hu3 : unitB l3 = true
              · rw [hu3]
                go_wp2_with fail
                have HE := Lib.hid (num_5 (isD := isDr r) (rd := rdr r) (mk := mkr) (zz := z) (w := e) hx1 (fun h => hun.out h.2) hx2 (by simp [hn2.out]) (fun h => hun2.out h.2) hx3 hu3)
                replace X2 := X2.dr
                replace X3 := X3.dr
                replace X5 := X5.dr
                replace S := S.dr
                replace F := F.dr
                replace Oz1 := Oz1.dr
                replace Oz2 := Oz2.dr
                replace Ox1 := Ox1.dr
                replace Ox2 := Ox2.dr
                refine AnyW.regionQ (fun _ => false) 7 (fun w' => w'.cell? ⟨w.heap.size, 0, none⟩ = some (.bool x.s) ∧ w'.cell? ⟨w.heap.size, 1, none⟩ = some (.slice Ar x.a.length cr) ∧ w'.cell? ⟨w.heap.size, 2, none⟩ = some (.slice Dr x.b.length dr)) rfl (by kernel_rfl) (by kernel_rfl) (by (repeat (with_reducible (first | refine quiet_then ?_ | refine quiet_block ?_))); exact quiet_body) ⟨X2.cell 0, X2.cell 1, X2.cell 2⟩ (fun Q' hQK hq hns hHeld => ?_)
                generalize w8.drew = wd at *
                refine AnyW.next (i := 0) (v := ?_) hq hns hHeld rfl rfl (by kernel_rfl) (Or.inl ⟨by rfl, ?_⟩) ?_
                rotate_left
                · intro w' hSw; (try dsimp only at hSw); go_simp <;> with_reducible rfl
                try simp only [List.setIfInBounds_toArray, List.set_cons_zero, List.set_cons_succ]
                refine AnyW.nextT (i := 1) (v := ?_) hq hns (.inr hHeld) rfl rfl (by kernel_rfl) (Or.inl ⟨by rfl, ?_⟩) ?_
                rotate_left
                · intro w' _; go_simp <;> with_reducible rfl
                try simp only [List.setIfInBounds_toArray, List.set_cons_zero, List.set_cons_succ]
                refine AnyW.one 2 (by kernel_rfl) rfl (fun K' hK => ?_)
                go_simp
                have Bk := bal wd (.cells #[.int .u32 (1 : Int)] 55)
                replace F := F.nx Bk (by have := S.lt; omega)
                replace S := S.nx Bk
                replace X2 := X2.nx Bk
                replace X3 := X3.nx Bk
                replace X5 := X5.nx Bk
                replace Oz1 := Oz1.below Bk (Nat.le_refl _)
                replace Oz2 := Oz2.below Bk (Nat.le_refl _)
                replace Ox1 := Ox1.below Bk (Nat.le_refl _)
                replace Ox2 := Ox2.below Bk (Nat.le_refl _)
                clear Bk
                have hW := whole_one neg2 wd
                obtain ⟨w50, hw50⟩ : ∃ w50, w50 = wd.alloc (.cells #[.int .u32 (1 : Int)] 55) := ⟨_, rfl⟩
                rw [← hw50] at X2 X3 X5 S F Oz1 Oz2 Ox1 Ox2 hW
                rw [← hw50]
                clear hw50
                refine hK.out _ _ (.inr ⟨X2.cell 0, X2.cell 1, X2.cell 2⟩) (fun hG => ?_)
                have hHeld := hG.resolve_left (notGone.spec (by rfl))
                clear hK K' hG
                try simp only [List.setIfInBounds_toArray, List.set_cons_zero, List.set_cons_succ]
                refine AnyW.one 3 (by kernel_rfl) rfl (fun K' hK => ?_)
                go_simp
                refine hW.mono ?_; rintro e' w51 ⟨Ao, co, Do, do_, rfl, Oo1, Oo2, BX⟩
                clear hW
                have hzb : w.heap.size + 2 ≤ w50.heap.size := by have := X3.lt; omega
                replace Oo1 := Oo1.base_le hzb
                replace Oo2 := Oo2.base_le hzb
                clear hzb
                go_wp2_with fail
                replace F := F.nx BX (by have := S.lt; omega)
                replace S := S.nx BX
                replace X2 := X2.nx BX
                replace X3 := X3.nx BX
                replace X5 := X5.nx BX
                replace Oz1 := Oz1.below BX (Nat.le_refl _)
                replace Oz2 := Oz2.below BX (Nat.le_refl _)
                replace Ox1 := Ox1.below BX (Nat.le_refl _)
                replace Ox2 := Ox2.below BX (Nat.le_refl _)
                clear BX
                obtain ⟨o, ho⟩ : ∃ o, mkr neg2 [1] [1] = o := ⟨_, rfl⟩
                rw [ho] at Oo1 Oo2 HE ⊢
                clear ho
                refine hK.out _ _ (.inr ⟨X2.cell 0, X2.cell 1, X2.cell 2⟩) (fun hG => ?_)
                have hHeld := hG.resolve_left (notGone.spec (by rfl))
                clear hK K' hG
                try simp only [List.setIfInBounds_toArray, List.set_cons_zero, List.set_cons_succ]
                have m0 := X2.cell 0
                have m1 := X2.cell 1
                have m2 := X2.cell 2
                have mf0 := X2.frozen 0
                have mf1 := X2.frozen 1
                have mf2 := X2.frozen 2
                refine AnyW.one 4 (by kernel_rfl) rfl (fun K' hK => ?_)
                go_simp
                replace X2 := X2.put3 (.bool x.s) (.slice Ar x.a.length cr) (.slice Dr x.b.length dr)
                replace X3 := X3.wr3 (r := w.heap.size) (by omega) (.bool x.s) (.slice Ar x.a.length cr) (.slice Dr x.b.length dr)
                replace X5 := X5.wr3 (r := w.heap.size) (by omega) (.bool x.s) (.slice Ar x.a.length cr) (.slice Dr x.b.length dr)
                replace S := S.wr3 (r := w.heap.size) (by omega) (.bool x.s) (.slice Ar x.a.length cr) (.slice Dr x.b.length dr)
                replace Oz1 := Oz1.wr3b (b := w.heap.size) (by omega) (.bool x.s) (.slice Ar x.a.length cr) (.slice Dr x.b.length dr)
                replace Oz2 := Oz2.wr3b (b := w.heap.size) (by omega) (.bool x.s) (.slice Ar x.a.length cr) (.slice Dr x.b.length dr)
                replace Ox1 := Ox1.wr3b (b := w.heap.size) (by omega) (.bool x.s) (.slice Ar x.a.length cr) (.slice Dr x.b.length dr)
                replace Ox2 := Ox2.wr3b (b := w.heap.size) (by omega) (.bool x.s) (.slice Ar x.a.length cr) (.slice Dr x.b.length dr)
                replace Oo1 := Oo1.wr3b (b := w.heap.size) (by omega) (.bool x.s) (.slice Ar x.a.length cr) (.slice Dr x.b.length dr)
                replace Oo2 := Oo2.wr3b (b := w.heap.size) (by omega) (.bool x.s) (.slice Ar x.a.length cr) (.slice Dr x.b.length dr)
                replace F := F.wr3 (b := w.heap.size) (by omega) (Nat.le_of_lt hgw) (.bool x.s) (.slice Ar x.a.length cr) (.slice Dr x.b.length dr)
                obtain ⟨w52, hw52⟩ : ∃ w52, w52 = Proofs.YtbgggepdlkbpoaaGreatDoor.wr3 w51 w.heap.size (.bool x.s) (.slice Ar x.a.length cr) (.slice Dr x.b.length dr) := ⟨_, rfl⟩
                rw [← hw52] at X2 X3 X5 S F Oz1 Oz2 Ox1 Ox2 Oo1 Oo2
                unfold Proofs.YtbgggepdlkbpoaaGreatDoor.wr3 at hw52
                rw [← hw52]
                clear hw52
                clear m0 mf0 m1 mf1 m2 mf2
                refine hK.out _ _ (.inr ⟨X2.cell 0, X2.cell 1, X2.cell 2⟩) (fun hG => ?_)
                have hHeld := hG.resolve_left (notGone.spec (by rfl))
                clear hK K' hG
                try simp only [List.setIfInBounds_toArray, List.set_cons_zero, List.set_cons_succ]
                have m0 := X3.cell 0
                have m1 := X3.cell 1
                have m2 := X3.cell 2
                have mf0 := X3.frozen 0
                have mf1 := X3.frozen 1
                have mf2 := X3.frozen 2
                refine AnyW.one 5 (by kernel_rfl) rfl (fun K' hK => ?_)
                go_simp
                replace X2 := X2.wr3 (r := (w.heap.size + 1)) (by omega) (.bool o.s) (.slice Ao o.a.length co) (.slice Do o.b.length do_)
                replace X3 := X3.put3 (.bool o.s) (.slice Ao o.a.length co) (.slice Do o.b.length do_)
                replace X5 := X5.wr3 (r := (w.heap.size + 1)) (by omega) (.bool o.s) (.slice Ao o.a.length co) (.slice Do o.b.length do_)
                replace S := S.wr3 (r := (w.heap.size + 1)) (by omega) (.bool o.s) (.slice Ao o.a.length co) (.slice Do o.b.length do_)
                replace Oz1 := Oz1.wr3b (b := (w.heap.size + 1)) (by omega) (.bool o.s) (.slice Ao o.a.length co) (.slice Do o.b.length do_)
                replace Oz2 := Oz2.wr3b (b := (w.heap.size + 1)) (by omega) (.bool o.s) (.slice Ao o.a.length co) (.slice Do o.b.length do_)
                replace Ox1 := Ox1.wr3b (b := (w.heap.size + 1)) (by omega) (.bool o.s) (.slice Ao o.a.length co) (.slice Do o.b.length do_)
                replace Ox2 := Ox2.wr3b (b := (w.heap.size + 1)) (by omega) (.bool o.s) (.slice Ao o.a.length co) (.slice Do o.b.length do_)
                replace Oo1 := Oo1.wr3b (b := (w.heap.size + 1)) (by omega) (.bool o.s) (.slice Ao o.a.length co) (.slice Do o.b.length do_)
                replace Oo2 := Oo2.wr3b (b := (w.heap.size + 1)) (by omega) (.bool o.s) (.slice Ao o.a.length co) (.slice Do o.b.length do_)
                replace F := F.wr3 (b := (w.heap.size + 1)) (by omega) (Nat.le_of_lt hgw) (.bool o.s) (.slice Ao o.a.length co) (.slice Do o.b.length do_)
                obtain ⟨w53, hw53⟩ : ∃ w53, w53 = Proofs.YtbgggepdlkbpoaaGreatDoor.wr3 w52 (w.heap.size + 1) (.bool o.s) (.slice Ao o.a.length co) (.slice Do o.b.length do_) := ⟨_, rfl⟩
                rw [← hw53] at X2 X3 X5 S F Oz1 Oz2 Ox1 Ox2 Oo1 Oo2
                unfold Proofs.YtbgggepdlkbpoaaGreatDoor.wr3 at hw53
                rw [← hw53]
                clear hw53
                clear m0 mf0 m1 mf1 m2 mf2
                refine hK.out _ _ (.inr ⟨X2.cell 0, X2.cell 1, X2.cell 2⟩) (fun hG => ?_)
                have hHeld := hG.resolve_left (notGone.spec (by rfl))
                clear hK K' hG
                try simp only [List.setIfInBounds_toArray, List.set_cons_zero, List.set_cons_succ]
                refine AnyW.nextT (i := 6) (v := ?_) hq hns (.inr hHeld) rfl rfl (by kernel_rfl) (Or.inl ⟨by rfl, ?_⟩) ?_
                rotate_left
                · intro w' _; go_simp <;> with_reducible rfl
                try simp only [List.setIfInBounds_toArray, List.set_cons_zero, List.set_cons_succ]
                refine AnyW.done (by kernel_rfl) (hQK.out _ _ ?_)
                clear hQK hq hns hHeld
                clear hr1 hr2 hs
                have r0 := X2.cell 0
                have r1 := X2.cell 1
                have r2 := X2.cell 2
                have r3 := X3.cell 0
                have r4 := X3.cell 1
                have r5 := X3.cell 2
                go_wp2_with fail
                refine bodyPost_ret (v := .tuple #[.agg #[.bool x.s, .slice Ar x.a.length cr, .slice Dr x.b.length dr], .agg #[.bool o.s, .slice Ao o.a.length co, .slice Do o.b.length do_], .bool true]) (by simp [results, r0, r1, r2, r3, r4, r5, go_sem]) rfl ?_
                rw [HE.out]
                exact ⟨Ar, cr, Dr, dr, Ao, co, Do, do_, _, rfl, Ox1.base_le (by omega), Ox2.base_le (by omega), Oo1.base_le (by omega), Oo2.base_le (by omega), S, F⟩
              · rw [Bool.eq_false_iff.2 hu3]
                go_wp2_with fail
                have hf := fraction_any g s3 r e2 neg2 w8 hl3z hr1 hr2 S
                rw [hl3] at hf
                obtain ⟨x2, hx4⟩ : ∃ x2, fracP (isDr r) (rdr r) mkr neg2 l3 e2 = x2 := ⟨_, rfl⟩
                have hfl := fracP_len (r := r) neg2 l3 e2
                rw [hx4] at hf hfl
                obtain ⟨y, ok3, l4, e4⟩ := x2
                dsimp only at hf hfl
                have hzb : w.heap.size + 2 ≤ w8.heap.size := by have := X3.lt; omega
                refine hf.mono ?_; rintro e' w9 ⟨Ai, ci, Di, di, s4, rfl, Oy1, Oy2, hl4, S', F1⟩
                dsimp only at Oy1 Oy2 hl4 S'
                clear hf S
                have S := S'
                clear S'
                replace X2 := X2.farW F1 (by omega)
                replace X3 := X3.farW F1 (by omega)
                replace X5 := X5.farW F1 (by omega)
                replace Oz1 := Oz1.farW F1 (by omega)
                replace Oz2 := Oz2.farW F1 (by omega)
                replace Ox1 := Ox1.farW F1 (by omega)
                replace Ox2 := Ox2.farW F1 (by omega)
                replace F := F.trans F1
                clear F1
                replace Oy1 := Oy1.base_le hzb
                replace Oy2 := Oy2.base_le hzb
                clear hzb
                have hl4z : s4.size ≤ 140737488351232 := by have := s_len s4; have h1 := s_len s3; rw [hl4] at this; rw [hl3] at h1; omega
                clear hfl
                clear hl3 hl3z hl4z
                cases ok3
                · skip
                  have ks := S.cell 0
                  have m0 := X3.cell 0
                  have m1 := X3.cell 1
                  have m2 := X3.cell 2
                  have mf0 := X3.frozen 0
                  have mf1 := X3.frozen 1
                  have mf2 := X3.frozen 2
                  replace X2 := X2.wr3 (r := (w.heap.size + 1)) (by omega) (.bool y.s) (.slice Ai y.a.length ci) (.slice Di y.b.length di)
                  replace X3 := X3.put3 (.bool y.s) (.slice Ai y.a.length ci) (.slice Di y.b.length di)
                  replace X5 := X5.wr3 (r := (w.heap.size + 1)) (by omega) (.bool y.s) (.slice Ai y.a.length ci) (.slice Di y.b.length di)
                  replace S := S.wr3 (r := (w.heap.size + 1)) (by omega) (.bool y.s) (.slice Ai y.a.length ci) (.slice Di y.b.length di)
                  replace Oz1 := Oz1.wr3b (b := (w.heap.size + 1)) (by omega) (.bool y.s) (.slice Ai y.a.length ci) (.slice Di y.b.length di)
                  replace Oz2 := Oz2.wr3b (b := (w.heap.size + 1)) (by omega) (.bool y.s) (.slice Ai y.a.length ci) (.slice Di y.b.length di)
                  replace Ox1 := Ox1.wr3b (b := (w.heap.size + 1)) (by omega) (.bool y.s) (.slice Ai y.a.length ci) (.slice Di y.b.length di)
                  replace Ox2 := Ox2.wr3b (b := (w.heap.size + 1)) (by omega) (.bool y.s) (.slice Ai y.a.length ci) (.slice Di y.b.length di)
                  replace Oy1 := Oy1.wr3b (b := (w.heap.size + 1)) (by omega) (.bool y.s) (.slice Ai y.a.length ci) (.slice Di y.b.length di)
                  replace Oy2 := Oy2.wr3b (b := (w.heap.size + 1)) (by omega) (.bool y.s) (.slice Ai y.a.length ci) (.slice Di y.b.length di)
                  replace F := F.wr3 (b := (w.heap.size + 1)) (by omega) (Nat.le_of_lt hgw) (.bool y.s) (.slice Ai y.a.length ci) (.slice Di y.b.length di)
                  obtain ⟨w54, hw54⟩ : ∃ w54, w54 = Proofs.YtbgggepdlkbpoaaGreatDoor.wr3 w9 (w.heap.size + 1) (.bool y.s) (.slice Ai y.a.length ci) (.slice Di y.b.length di) := ⟨_, rfl⟩
                  rw [← hw54] at X2 X3 X5 S F Oz1 Oz2 Ox1 Ox2 Oy1 Oy2
                  go_wp2_with fail
                  unfold Proofs.YtbgggepdlkbpoaaGreatDoor.wr3 at hw54
                  rw [← hw54]
                  clear hw54
                  clear m0 mf0 m1 mf1 m2 mf2
                  clear ks
                  have HE := Lib.hid (num_6 (isD := isDr r) (rd := rdr r) (mk := mkr) (zz := z) (w := e) hx1 (fun h => hun.out h.2) hx2 (by simp [hn2.out]) (fun h => hun2.out h.2) hx3 hu3 hx4)
                  replace X2 := X2.dr
                  replace X3 := X3.dr
                  replace X5 := X5.dr
                  replace S := S.dr
                  replace F := F.dr
                  replace Oz1 := Oz1.dr
                  replace Oz2 := Oz2.dr
                  replace Ox1 := Ox1.dr
                  replace Ox2 := Ox2.dr
                  replace Oy1 := Oy1.dr
                  replace Oy2 := Oy2.dr
                  refine AnyW.regionQ (fun _ => false) 10 (fun w' => w'.cell? ⟨w.heap.size, 0, none⟩ = some (.bool x.s) ∧ w'.cell? ⟨w.heap.size, 1, none⟩ = some (.slice Ar x.a.length cr) ∧ w'.cell? ⟨w.heap.size, 2, none⟩ = some (.slice Dr x.b.length dr) ∧ w'.cell? ⟨(w.heap.size + 1), 0, none⟩ = some (.bool y.s) ∧ w'.cell? ⟨(w.heap.size + 1), 1, none⟩ = some (.slice Ai y.a.length ci) ∧ w'.cell? ⟨(w.heap.size + 1), 2, none⟩ = some (.slice Di y.b.length di)) rfl (by kernel_rfl) (by kernel_rfl) (by (repeat (with_reducible (first | refine quiet_then ?_ | refine quiet_block ?_))); exact quiet_body) ⟨X2.cell 0, X2.cell 1, X2.cell 2, X3.cell 0, X3.cell 1, X3.cell 2⟩ (fun Q' hQK hq hns hHeld => ?_)
                  generalize w54.drew = wd at *
                  refine AnyW.next (i := 0) (v := ?_) hq hns hHeld rfl rfl (by kernel_rfl) (Or.inl ⟨by rfl, ?_⟩) ?_
                  rotate_left
                  · intro w' hSw; (try dsimp only at hSw); go_simp <;> with_reducible rfl
                  try simp only [List.setIfInBounds_toArray, List.set_cons_zero, List.set_cons_succ]
                  refine AnyW.next (i := 1) (v := ?_) hq hns hHeld rfl rfl (by kernel_rfl) (Or.inl ⟨by rfl, ?_⟩) ?_
                  rotate_left
                  · intro w' hSw; (try dsimp only at hSw); go_simp <;> with_reducible rfl
                  try simp only [List.setIfInBounds_toArray, List.set_cons_zero, List.set_cons_succ]
                  refine AnyW.nextT (i := 2) (v := ?_) hq hns (.inr hHeld) rfl rfl (by kernel_rfl) (Or.inl ⟨by rfl, ?_⟩) ?_
                  rotate_left
                  · intro w' _; go_simp <;> with_reducible rfl
                  try simp only [List.setIfInBounds_toArray, List.set_cons_zero, List.set_cons_succ]
                  refine AnyW.nextT (i := 3) (v := ?_) hq hns (.inr hHeld) rfl rfl (by kernel_rfl) (Or.inl ⟨by rfl, ?_⟩) ?_
                  rotate_left
                  · intro w' _; go_simp <;> with_reducible rfl
                  try simp only [List.setIfInBounds_toArray, List.set_cons_zero, List.set_cons_succ]
                  refine AnyW.nextT (i := 4) (v := undef) hq hns (.inr hHeld) rfl rfl (by kernel_rfl) (Or.inr ⟨by rfl, rfl⟩) ?_
                  try simp only [List.setIfInBounds_toArray, List.set_cons_zero, List.set_cons_succ]
                  refine AnyW.nextT (i := 5) (v := undef) hq hns (.inr hHeld) rfl rfl (by kernel_rfl) (Or.inr ⟨by rfl, rfl⟩) ?_
                  try simp only [List.setIfInBounds_toArray, List.set_cons_zero, List.set_cons_succ]
                  refine AnyW.nextT (i := 6) (v := ?_) hq hns (.inr hHeld) rfl rfl (by kernel_rfl) (Or.inl ⟨by rfl, ?_⟩) ?_
                  rotate_left
                  · intro w' _; go_simp <;> with_reducible rfl
                  try simp only [List.setIfInBounds_toArray, List.set_cons_zero, List.set_cons_succ]
                  have m0 := X2.cell 0
                  have m1 := X2.cell 1
                  have m2 := X2.cell 2
                  have mf0 := X2.frozen 0
                  have mf1 := X2.frozen 1
                  have mf2 := X2.frozen 2
                  refine AnyW.one 7 (by kernel_rfl) rfl (fun K' hK => ?_)
                  go_simp
                  replace X2 := X2.put3 (.bool x.s) (.slice Ar x.a.length cr) (.slice Dr x.b.length dr)
                  replace X3 := X3.wr3 (r := w.heap.size) (by omega) (.bool x.s) (.slice Ar x.a.length cr) (.slice Dr x.b.length dr)
                  replace X5 := X5.wr3 (r := w.heap.size) (by omega) (.bool x.s) (.slice Ar x.a.length cr) (.slice Dr x.b.length dr)
                  replace S := S.wr3 (r := w.heap.size) (by omega) (.bool x.s) (.slice Ar x.a.length cr) (.slice Dr x.b.length dr)
                  replace Oz1 := Oz1.wr3b (b := w.heap.size) (by omega) (.bool x.s) (.slice Ar x.a.length cr) (.slice Dr x.b.length dr)
                  replace Oz2 := Oz2.wr3b (b := w.heap.size) (by omega) (.bool x.s) (.slice Ar x.a.length cr) (.slice Dr x.b.length dr)
                  replace Ox1 := Ox1.wr3b (b := w.heap.size) (by omega) (.bool x.s) (.slice Ar x.a.length cr) (.slice Dr x.b.length dr)
                  replace Ox2 := Ox2.wr3b (b := w.heap.size) (by omega) (.bool x.s) (.slice Ar x.a.length cr) (.slice Dr x.b.length dr)
                  replace Oy1 := Oy1.wr3b (b := w.heap.size) (by omega) (.bool x.s) (.slice Ar x.a.length cr) (.slice Dr x.b.length dr)
                  replace Oy2 := Oy2.wr3b (b := w.heap.size) (by omega) (.bool x.s) (.slice Ar x.a.length cr) (.slice Dr x.b.length dr)
                  replace F := F.wr3 (b := w.heap.size) (by omega) (Nat.le_of_lt hgw) (.bool x.s) (.slice Ar x.a.length cr) (.slice Dr x.b.length dr)
                  obtain ⟨w55, hw55⟩ : ∃ w55, w55 = Proofs.YtbgggepdlkbpoaaGreatDoor.wr3 wd w.heap.size (.bool x.s) (.slice Ar x.a.length cr) (.slice Dr x.b.length dr) := ⟨_, rfl⟩
                  rw [← hw55] at X2 X3 X5 S F Oz1 Oz2 Ox1 Ox2 Oy1 Oy2
                  unfold Proofs.YtbgggepdlkbpoaaGreatDoor.wr3 at hw55
                  rw [← hw55]
                  clear hw55
                  clear m0 mf0 m1 mf1 m2 mf2
                  refine hK.out _ _ (.inr ⟨X2.cell 0, X2.cell 1, X2.cell 2, X3.cell 0, X3.cell 1, X3.cell 2⟩) (fun hG => ?_)
                  have hHeld := hG.resolve_left (notGone.spec (by rfl))
                  clear hK K' hG
                  try simp only [List.setIfInBounds_toArray, List.set_cons_zero, List.set_cons_succ]
                  have m0 := X3.cell 0
                  have m1 := X3.cell 1
                  have m2 := X3.cell 2
                  have mf0 := X3.frozen 0
                  have mf1 := X3.frozen 1
                  have mf2 := X3.frozen 2
                  refine AnyW.one 8 (by kernel_rfl) rfl (fun K' hK => ?_)
                  go_simp
                  replace X2 := X2.wr3 (r := (w.heap.size + 1)) (by omega) (.bool y.s) (.slice Ai y.a.length ci) (.slice Di y.b.length di)
                  replace X3 := X3.put3 (.bool y.s) (.slice Ai y.a.length ci) (.slice Di y.b.length di)
                  replace X5 := X5.wr3 (r := (w.heap.size + 1)) (by omega) (.bool y.s) (.slice Ai y.a.length ci) (.slice Di y.b.length di)
                  replace S := S.wr3 (r := (w.heap.size + 1)) (by omega) (.bool y.s) (.slice Ai y.a.length ci) (.slice Di y.b.length di)
                  replace Oz1 := Oz1.wr3b (b := (w.heap.size + 1)) (by omega) (.bool y.s) (.slice Ai y.a.length ci) (.slice Di y.b.length di)
                  replace Oz2 := Oz2.wr3b (b := (w.heap.size + 1)) (by omega) (.bool y.s) (.slice Ai y.a.length ci) (.slice Di y.b.length di)
                  replace Ox1 := Ox1.wr3b (b := (w.heap.size + 1)) (by omega) (.bool y.s) (.slice Ai y.a.length ci) (.slice Di y.b.length di)
                  replace Ox2 := Ox2.wr3b (b := (w.heap.size + 1)) (by omega) (.bool y.s) (.slice Ai y.a.length ci) (.slice Di y.b.length di)
                  replace Oy1 := Oy1.wr3b (b := (w.heap.size + 1)) (by omega) (.bool y.s) (.slice Ai y.a.length ci) (.slice Di y.b.length di)
                  replace Oy2 := Oy2.wr3b (b := (w.heap.size + 1)) (by omega) (.bool y.s) (.slice Ai y.a.length ci) (.slice Di y.b.length di)
                  replace F := F.wr3 (b := (w.heap.size + 1)) (by omega) (Nat.le_of_lt hgw) (.bool y.s) (.slice Ai y.a.length ci) (.slice Di y.b.length di)
                  obtain ⟨w56, hw56⟩ : ∃ w56, w56 = Proofs.YtbgggepdlkbpoaaGreatDoor.wr3 w55 (w.heap.size + 1) (.bool y.s) (.slice Ai y.a.length ci) (.slice Di y.b.length di) := ⟨_, rfl⟩
                  rw [← hw56] at X2 X3 X5 S F Oz1 Oz2 Ox1 Ox2 Oy1 Oy2
                  unfold Proofs.YtbgggepdlkbpoaaGreatDoor.wr3 at hw56
                  rw [← hw56]
                  clear hw56
                  clear m0 mf0 m1 mf1 m2 mf2
                  refine hK.out _ _ (.inr ⟨X2.cell 0, X2.cell 1, X2.cell 2, X3.cell 0, X3.cell 1, X3.cell 2⟩) (fun hG => ?_)
                  have hHeld := hG.resolve_left (notGone.spec (by rfl))
                  clear hK K' hG
                  try simp only [List.setIfInBounds_toArray, List.set_cons_zero, List.set_cons_succ]
                  refine AnyW.nextT (i := 9) (v := ?_) hq hns (.inr hHeld) rfl rfl (by kernel_rfl) (Or.inl ⟨by rfl, ?_⟩) ?_
                  rotate_left
                  · intro w' _; go_simp <;> with_reducible rfl
                  try simp only [List.setIfInBounds_toArray, List.set_cons_zero, List.set_cons_succ]
                  refine AnyW.done (by kernel_rfl) (hQK.out _ _ ?_)
                  clear hQK hq hns hHeld
                  clear hr1 hr2 hs
                  have r0 := X2.cell 0
                  have r1 := X2.cell 1
                  have r2 := X2.cell 2
                  have r3 := X3.cell 0
                  have r4 := X3.cell 1
                  have r5 := X3.cell 2
                  go_wp2_with fail
                  refine bodyPost_ret (v := .tuple #[.agg #[.bool x.s, .slice Ar x.a.length cr, .slice Dr x.b.length dr], .agg #[.bool y.s, .slice Ai y.a.length ci, .slice Di y.b.length di], .bool false]) (by simp [results, r0, r1, r2, r3, r4, r5, go_sem]) rfl ?_
                  rw [HE.out]
                  exact ⟨Ar, cr, Dr, dr, Ai, ci, Di, di, _, rfl, Ox1.base_le (by omega), Ox2.base_le (by omega), Oy1.base_le (by omega), Oy2.base_le (by omega), S, F⟩
                · skip
                  have ks := S.cell 0
                  have m0 := X3.cell 0
                  have m1 := X3.cell 1
                  have m2 := X3.cell 2
                  have mf0 := X3.frozen 0
                  have mf1 := X3.frozen 1
                  have mf2 := X3.frozen 2
                  replace X2 := X2.wr3 (r := (w.heap.size + 1)) (by omega) (.bool y.s) (.slice Ai y.a.length ci) (.slice Di y.b.length di)
                  replace X3 := X3.put3 (.bool y.s) (.slice Ai y.a.length ci) (.slice Di y.b.length di)
                  replace X5 := X5.wr3 (r := (w.heap.size + 1)) (by omega) (.bool y.s) (.slice Ai y.a.length ci) (.slice Di y.b.length di)
                  replace S := S.wr3 (r := (w.heap.size + 1)) (by omega) (.bool y.s) (.slice Ai y.a.length ci) (.slice Di y.b.length di)
                  replace Oz1 := Oz1.wr3b (b := (w.heap.size + 1)) (by omega) (.bool y.s) (.slice Ai y.a.length ci) (.slice Di y.b.length di)
                  replace Oz2 := Oz2.wr3b (b := (w.heap.size + 1)) (by omega) (.bool y.s) (.slice Ai y.a.length ci) (.slice Di y.b.length di)
                  replace Ox1 := Ox1.wr3b (b := (w.heap.size + 1)) (by omega) (.bool y.s) (.slice Ai y.a.length ci) (.slice Di y.b.length di)
                  replace Ox2 := Ox2.wr3b (b := (w.heap.size + 1)) (by omega) (.bool y.s) (.slice Ai y.a.length ci) (.slice Di y.b.length di)
                  replace Oy1 := Oy1.wr3b (b := (w.heap.size + 1)) (by omega) (.bool y.s) (.slice Ai y.a.length ci) (.slice Di y.b.length di)
                  replace Oy2 := Oy2.wr3b (b := (w.heap.size + 1)) (by omega) (.bool y.s) (.slice Ai y.a.length ci) (.slice Di y.b.length di)
                  replace F := F.wr3 (b := (w.heap.size + 1)) (by omega) (Nat.le_of_lt hgw) (.bool y.s) (.slice Ai y.a.length ci) (.slice Di y.b.length di)
                  obtain ⟨w57, hw57⟩ : ∃ w57, w57 = Proofs.YtbgggepdlkbpoaaGreatDoor.wr3 w9 (w.heap.size + 1) (.bool y.s) (.slice Ai y.a.length ci) (.slice Di y.b.length di) := ⟨_, rfl⟩
                  rw [← hw57] at X2 X3 X5 S F Oz1 Oz2 Ox1 Ox2 Oy1 Oy2
                  go_wp2_with fail
                  unfold Proofs.YtbgggepdlkbpoaaGreatDoor.wr3 at hw57
                  rw [← hw57]
                  clear hw57
                  clear m0 mf0 m1 mf1 m2 mf2
                  clear ks
                  have HE := Lib.hid (num_6 (isD := isDr r) (rd := rdr r) (mk := mkr) (zz := z) (w := e) hx1 (fun h => hun.out h.2) hx2 (by simp [hn2.out]) (fun h => hun2.out h.2) hx3 hu3 hx4)
                  replace X2 := X2.dr
                  replace X3 := X3.dr
                  replace X5 := X5.dr
                  replace S := S.dr
                  replace F := F.dr
                  replace Oz1 := Oz1.dr
                  replace Oz2 := Oz2.dr
                  replace Ox1 := Ox1.dr
                  replace Ox2 := Ox2.dr
                  replace Oy1 := Oy1.dr
                  replace Oy2 := Oy2.dr
                  refine AnyW.regionQ (fun _ => false) 10 (fun w' => w'.cell? ⟨w.heap.size, 0, none⟩ = some (.bool x.s) ∧ w'.cell? ⟨w.heap.size, 1, none⟩ = some (.slice Ar x.a.length cr) ∧ w'.cell? ⟨w.heap.size, 2, none⟩ = some (.slice Dr x.b.length dr) ∧ w'.cell? ⟨(w.heap.size + 1), 0, none⟩ = some (.bool y.s) ∧ w'.cell? ⟨(w.heap.size + 1), 1, none⟩ = some (.slice Ai y.a.length ci) ∧ w'.cell? ⟨(w.heap.size + 1), 2, none⟩ = some (.slice Di y.b.length di)) rfl (by kernel_rfl) (by kernel_rfl) (by (repeat (with_reducible (first | refine quiet_then ?_ | refine quiet_block ?_))); exact quiet_body) ⟨X2.cell 0, X2.cell 1, X2.cell 2, X3.cell 0, X3.cell 1, X3.cell 2⟩ (fun Q' hQK hq hns hHeld => ?_)
                  generalize w57.drew = wd at *
                  refine AnyW.next (i := 0) (v := ?_) hq hns hHeld rfl rfl (by kernel_rfl) (Or.inl ⟨by rfl, ?_⟩) ?_
                  rotate_left
                  · intro w' hSw; (try dsimp only at hSw); go_simp <;> with_reducible rfl
                  try simp only [List.setIfInBounds_toArray, List.set_cons_zero, List.set_cons_succ]
                  refine AnyW.next (i := 1) (v := ?_) hq hns hHeld rfl rfl (by kernel_rfl) (Or.inl ⟨by rfl, ?_⟩) ?_
                  rotate_left
                  · intro w' hSw; (try dsimp only at hSw); go_simp <;> with_reducible rfl
                  try simp only [List.setIfInBounds_toArray, List.set_cons_zero, List.set_cons_succ]
                  refine AnyW.nextT (i := 2) (v := ?_) hq hns (.inr hHeld) rfl rfl (by kernel_rfl) (Or.inl ⟨by rfl, ?_⟩) ?_
                  rotate_left
                  · intro w' _; go_simp <;> with_reducible rfl
                  try simp only [List.setIfInBounds_toArray, List.set_cons_zero, List.set_cons_succ]
                  refine AnyW.nextT (i := 3) (v := ?_) hq hns (.inr hHeld) rfl rfl (by kernel_rfl) (Or.inl ⟨by rfl, ?_⟩) ?_
                  rotate_left
                  · intro w' _; go_simp <;> with_reducible rfl
                  try simp only [List.setIfInBounds_toArray, List.set_cons_zero, List.set_cons_succ]
                  refine AnyW.nextT (i := 4) (v := ?_) hq hns (.inr hHeld) rfl rfl (by kernel_rfl) (Or.inl ⟨by rfl, ?_⟩) ?_
                  rotate_left
                  · intro w' _; go_simp <;> with_reducible rfl
                  try simp only [List.setIfInBounds_toArray, List.set_cons_zero, List.set_cons_succ]
                  refine AnyW.one 5 (by kernel_rfl) rfl (fun K' hK => ?_)
                  go_simp
                  have hv := unit_any g s4 _ _ wd S
                  rw [hl4] at hv
                  refine hv.mono ?_; rintro e' w9 ⟨rfl, rfl⟩
                  clear hv
                  go_wp2_with fail
                  refine hK.out _ _ (.inr ⟨X2.cell 0, X2.cell 1, X2.cell 2, X3.cell 0, X3.cell 1, X3.cell 2⟩) (fun hG => ?_)
                  have hHeld := hG.resolve_left (notGone.spec (by rfl))
                  clear hK K' hG
                  try simp only [List.setIfInBounds_toArray, List.set_cons_zero, List.set_cons_succ]
                  refine AnyW.nextT (i := 6) (v := ?_) hq hns (.inr hHeld) rfl rfl (by kernel_rfl) (Or.inl ⟨by rfl, ?_⟩) ?_
                  rotate_left
                  · intro w' _; go_simp <;> with_reducible rfl
                  try simp only [List.setIfInBounds_toArray, List.set_cons_zero, List.set_cons_succ]
                  have m0 := X2.cell 0
                  have m1 := X2.cell 1
                  have m2 := X2.cell 2
                  have mf0 := X2.frozen 0
                  have mf1 := X2.frozen 1
                  have mf2 := X2.frozen 2
                  refine AnyW.one 7 (by kernel_rfl) rfl (fun K' hK => ?_)
                  go_simp
                  replace X2 := X2.put3 (.bool x.s) (.slice Ar x.a.length cr) (.slice Dr x.b.length dr)
                  replace X3 := X3.wr3 (r := w.heap.size) (by omega) (.bool x.s) (.slice Ar x.a.length cr) (.slice Dr x.b.length dr)
                  replace X5 := X5.wr3 (r := w.heap.size) (by omega) (.bool x.s) (.slice Ar x.a.length cr) (.slice Dr x.b.length dr)
                  replace S := S.wr3 (r := w.heap.size) (by omega) (.bool x.s) (.slice Ar x.a.length cr) (.slice Dr x.b.length dr)
                  replace Oz1 := Oz1.wr3b (b := w.heap.size) (by omega) (.bool x.s) (.slice Ar x.a.length cr) (.slice Dr x.b.length dr)
                  replace Oz2 := Oz2.wr3b (b := w.heap.size) (by omega) (.bool x.s) (.slice Ar x.a.length cr) (.slice Dr x.b.length dr)
                  replace Ox1 := Ox1.wr3b (b := w.heap.size) (by omega) (.bool x.s) (.slice Ar x.a.length cr) (.slice Dr x.b.length dr)
                  replace Ox2 := Ox2.wr3b (b := w.heap.size) (by omega) (.bool x.s) (.slice Ar x.a.length cr) (.slice Dr x.b.length dr)
                  replace Oy1 := Oy1.wr3b (b := w.heap.size) (by omega) (.bool x.s) (.slice Ar x.a.length cr) (.slice Dr x.b.length dr)
                  replace Oy2 := Oy2.wr3b (b := w.heap.size) (by omega) (.bool x.s) (.slice Ar x.a.length cr) (.slice Dr x.b.length dr)
                  replace F := F.wr3 (b := w.heap.size) (by omega) (Nat.le_of_lt hgw) (.bool x.s) (.slice Ar x.a.length cr) (.slice Dr x.b.length dr)
                  obtain ⟨w58, hw58⟩ : ∃ w58, w58 = Proofs.YtbgggepdlkbpoaaGreatDoor.wr3 wd w.heap.size (.bool x.s) (.slice Ar x.a.length cr) (.slice Dr x.b.length dr) := ⟨_, rfl⟩
                  rw [← hw58] at X2 X3 X5 S F Oz1 Oz2 Ox1 Ox2 Oy1 Oy2
                  unfold Proofs.YtbgggepdlkbpoaaGreatDoor.wr3 at hw58
                  rw [← hw58]
                  clear hw58
                  clear m0 mf0 m1 mf1 m2 mf2
                  refine hK.out _ _ (.inr ⟨X2.cell 0, X2.cell 1, X2.cell 2, X3.cell 0, X3.cell 1, X3.cell 2⟩) (fun hG => ?_)
                  have hHeld := hG.resolve_left (notGone.spec (by rfl))
                  clear hK K' hG
                  try simp only [List.setIfInBounds_toArray, List.set_cons_zero, List.set_cons_succ]
                  have m0 := X3.cell 0
                  have m1 := X3.cell 1
                  have m2 := X3.cell 2
                  have mf0 := X3.frozen 0
                  have mf1 := X3.frozen 1
                  have mf2 := X3.frozen 2
                  refine AnyW.one 8 (by kernel_rfl) rfl (fun K' hK => ?_)
                  go_simp
                  replace X2 := X2.wr3 (r := (w.heap.size + 1)) (by omega) (.bool y.s) (.slice Ai y.a.length ci) (.slice Di y.b.length di)
                  replace X3 := X3.put3 (.bool y.s) (.slice Ai y.a.length ci) (.slice Di y.b.length di)
                  replace X5 := X5.wr3 (r := (w.heap.size + 1)) (by omega) (.bool y.s) (.slice Ai y.a.length ci) (.slice Di y.b.length di)
                  replace S := S.wr3 (r := (w.heap.size + 1)) (by omega) (.bool y.s) (.slice Ai y.a.length ci) (.slice Di y.b.length di)
                  replace Oz1 := Oz1.wr3b (b := (w.heap.size + 1)) (by omega) (.bool y.s) (.slice Ai y.a.length ci) (.slice Di y.b.length di)
                  replace Oz2 := Oz2.wr3b (b := (w.heap.size + 1)) (by omega) (.bool y.s) (.slice Ai y.a.length ci) (.slice Di y.b.length di)
                  replace Ox1 := Ox1.wr3b (b := (w.heap.size + 1)) (by omega) (.bool y.s) (.slice Ai y.a.length ci) (.slice Di y.b.length di)
                  replace Ox2 := Ox2.wr3b (b := (w.heap.size + 1)) (by omega) (.bool y.s) (.slice Ai y.a.length ci) (.slice Di y.b.length di)
                  replace Oy1 := Oy1.wr3b (b := (w.heap.size + 1)) (by omega) (.bool y.s) (.slice Ai y.a.length ci) (.slice Di y.b.length di)
                  replace Oy2 := Oy2.wr3b (b := (w.heap.size + 1)) (by omega) (.bool y.s) (.slice Ai y.a.length ci) (.slice Di y.b.length di)
                  replace F := F.wr3 (b := (w.heap.size + 1)) (by omega) (Nat.le_of_lt hgw) (.bool y.s) (.slice Ai y.a.length ci) (.slice Di y.b.length di)
                  obtain ⟨w59, hw59⟩ : ∃ w59, w59 = Proofs.YtbgggepdlkbpoaaGreatDoor.wr3 w58 (w.heap.size + 1) (.bool y.s) (.slice Ai y.a.length ci) (.slice Di y.b.length di) := ⟨_, rfl⟩
                  rw [← hw59] at X2 X3 X5 S F Oz1 Oz2 Ox1 Ox2 Oy1 Oy2
                  unfold Proofs.YtbgggepdlkbpoaaGreatDoor.wr3 at hw59
                  rw [← hw59]
                  clear hw59
                  clear m0 mf0 m1 mf1 m2 mf2
                  refine hK.out _ _ (.inr ⟨X2.cell 0, X2.cell 1, X2.cell 2, X3.cell 0, X3.cell 1, X3.cell 2⟩) (fun hG => ?_)
                  have hHeld := hG.resolve_left (notGone.spec (by rfl))
                  clear hK K' hG
                  try simp only [List.setIfInBounds_toArray, List.set_cons_zero, List.set_cons_succ]
                  refine AnyW.nextT (i := 9) (v := ?_) hq hns (.inr hHeld) rfl rfl (by kernel_rfl) (Or.inl ⟨by rfl, ?_⟩) ?_
                  rotate_left
                  · intro w' _; go_simp <;> with_reducible rfl
                  try simp only [List.setIfInBounds_toArray, List.set_cons_zero, List.set_cons_succ]
                  refine AnyW.done (by kernel_rfl) (hQK.out _ _ ?_)
                  clear hQK hq hns hHeld
                  clear hr1 hr2 hs
                  have r0 := X2.cell 0
                  have r1 := X2.cell 1
                  have r2 := X2.cell 2
                  have r3 := X3.cell 0
                  have r4 := X3.cell 1
                  have r5 := X3.cell 2
                  go_wp2_with fail
                  refine bodyPost_ret (v := .tuple #[.agg #[.bool x.s, .slice Ar x.a.length cr, .slice Dr x.b.length dr], .agg #[.bool y.s, .slice Ai y.a.length ci, .slice Di y.b.length di], .bool (true && unitB l4)]) (by simp [results, r0, r1, r2, r3, r4, r5, go_sem]) rfl ?_
                  rw [HE.out]
                  exact ⟨Ar, cr, Dr, dr, Ai, ci, Di, di, _, rfl, Ox1.base_le (by omega), Ox2.base_le (by omega), Oy1.base_le (by omega), Oy2.base_le (by omega), S, F⟩
end Go.Proofs.YtbgggepdlkbpoaaGreatDoor
