/- Walks: body of the reference. -/
import Derived.Test.YtkjfpaommbjgbaaRdH
import Derived.Test.YtkjfpaommbjgbaaRdF
namespace Go.Proofs.Ytkjfpaommbjgbaa
open Go.RowKit

section
variable {isD : UInt8 → Bool} {rd : List UInt8 → List Nat × Int} {mk : Bool → List Nat → List Nat → Rw} {zz re im : Rw} {s s1 s2 s3 s4 : List UInt8} {e f : Int} {neg neg2 sg : Bool}
theorem bd_1 (h : sgnP s = (neg, true, s1)) (hu : unitB s1 = true) : bodyR isD rd mk zz s = some (zz, mk neg [1] [1], 0) := by
  unfold bodyR; rw [h]; dsimp only; rw [if_pos ⟨rfl, hu⟩]
theorem bd_2 (h : sgnP s = (neg, sg, s1)) (hu : ¬ (sg = true ∧ unitB s1 = true)) (hp : pieceR isD rd mk zz s1 neg = none) : bodyR isD rd mk zz s = none := by
  unfold bodyR; rw [h]; dsimp only; rw [if_neg hu, hp]
theorem bd_3 (h : sgnP s = (neg, sg, s1)) (hu : ¬ (sg = true ∧ unitB s1 = true)) (hp : pieceR isD rd mk zz s1 neg = some (s2, re, e)) (h2 : s2 = []) : bodyR isD rd mk zz s = some (re, zz, e) := by
  unfold bodyR; rw [h]; dsimp only; rw [if_neg hu, hp]; dsimp only; rw [if_pos h2]
theorem bd_4 (h : sgnP s = (neg, sg, s1)) (hu : ¬ (sg = true ∧ unitB s1 = true)) (hp : pieceR isD rd mk zz s1 neg = some (s2, re, e)) (h2 : ¬ s2 = []) (h3 : sg = true ∧ unitB s2 = true) : bodyR isD rd mk zz s = some (zz, re, e) := by
  unfold bodyR; rw [h]; dsimp only; rw [if_neg hu, hp]; dsimp only; rw [if_neg h2, if_pos h3]
theorem bd_5 (h : sgnP s = (neg, sg, s1)) (hu : ¬ (sg = true ∧ unitB s1 = true)) (hp : pieceR isD rd mk zz s1 neg = some (s2, re, e)) (h2 : ¬ s2 = []) (h3 : ¬ (sg = true ∧ unitB s2 = true)) (h4 : (sgnP s2).2.1 = false) : bodyR isD rd mk zz s = none := by
  unfold bodyR; rw [h]; dsimp only; rw [if_neg hu, hp]; dsimp only; rw [if_neg h2, if_neg h3, if_pos h4]
theorem bd_6 (h : sgnP s = (neg, sg, s1)) (hu : ¬ (sg = true ∧ unitB s1 = true)) (hp : pieceR isD rd mk zz s1 neg = some (s2, re, e)) (h2 : ¬ s2 = []) (h3 : ¬ (sg = true ∧ unitB s2 = true)) (h4 : sgnP s2 = (neg2, true, s3)) (h5 : unitB s3 = true) :
    bodyR isD rd mk zz s = some (re, mk neg2 [1] [1], e) := by
  unfold bodyR; rw [h]; dsimp only; rw [if_neg hu, hp]; dsimp only; rw [if_neg h2, if_neg h3, h4]; dsimp only; rw [if_neg (by simp), if_pos h5]
theorem bd_7 (h : sgnP s = (neg, sg, s1)) (hu : ¬ (sg = true ∧ unitB s1 = true)) (hp : pieceR isD rd mk zz s1 neg = some (s2, re, e)) (h2 : ¬ s2 = []) (h3 : ¬ (sg = true ∧ unitB s2 = true)) (h4 : sgnP s2 = (neg2, true, s3)) (h5 : ¬ unitB s3 = true)
    (hq : pieceR isD rd mk zz s3 neg2 = none) : bodyR isD rd mk zz s = none := by
  unfold bodyR; rw [h]; dsimp only; rw [if_neg hu, hp]; dsimp only; rw [if_neg h2, if_neg h3, h4]; dsimp only; rw [if_neg (by simp), if_neg h5, hq]
theorem bd_8 (h : sgnP s = (neg, sg, s1)) (hu : ¬ (sg = true ∧ unitB s1 = true)) (hp : pieceR isD rd mk zz s1 neg = some (s2, re, e)) (h2 : ¬ s2 = []) (h3 : ¬ (sg = true ∧ unitB s2 = true)) (h4 : sgnP s2 = (neg2, true, s3)) (h5 : ¬ unitB s3 = true)
    (hq : pieceR isD rd mk zz s3 neg2 = some (s4, im, f)) (h6 : unitB s4 = true) : bodyR isD rd mk zz s = some (re, im, worseE e f) := by
  unfold bodyR; rw [h]; dsimp only; rw [if_neg hu, hp]; dsimp only; rw [if_neg h2, if_neg h3, h4]; dsimp only; rw [if_neg (by simp), if_neg h5, hq]; dsimp only; rw [if_pos h6]
theorem bd_9 (h : sgnP s = (neg, sg, s1)) (hu : ¬ (sg = true ∧ unitB s1 = true)) (hp : pieceR isD rd mk zz s1 neg = some (s2, re, e)) (h2 : ¬ s2 = []) (h3 : ¬ (sg = true ∧ unitB s2 = true)) (h4 : sgnP s2 = (neg2, true, s3)) (h5 : ¬ unitB s3 = true)
    (hq : pieceR isD rd mk zz s3 neg2 = some (s4, im, f)) (h6 : ¬ unitB s4 = true) : bodyR isD rd mk zz s = none := by
  unfold bodyR; rw [h]; dsimp only; rw [if_neg hu, hp]; dsimp only; rw [if_neg h2, if_neg h3, h4]; dsimp only; rw [if_neg (by simp), if_neg h5, hq]; dsimp only; rw [if_neg h6]
end
theorem sgn_split {l : List UInt8} {k : Nat} : (∃ neg, k < l.length ∧ sgnP (l.drop k) = (neg, true, l.drop (k + 1)) ∧ ((byt l k : Int) == 45) = neg) ∨ sgnP (l.drop k) = (false, false, l.drop k) := by
  by_cases h : k < l.length
  · rw [sgn_at h]
    by_cases h1 : byt l k = 43 ∨ byt l k = 45
    · rw [if_pos h1]
      refine .inl ⟨_, h, rfl, ?_⟩
      rw [Bool.beq_eq_decide_eq]
      exact decide_eq_decide.2 (by omega)
    · rw [if_neg h1]
      exact .inr rfl
  · exact .inr (by rw [sgn_end h, List.drop_eq_nil_of_le (show l.length ≤ k by omega)])
theorem one_rw (neg : Bool) : mkr neg [1] [1] = ⟨neg, [1], [1]⟩ := by
  cases neg
  · show rwq (ratN false (val [1]) (val [1])) = _
    rw [val_one]
    show (⟨qn (ratN false 1 1), digs (qt (ratN false 1 1)), digs (qd (ratN false 1 1))⟩ : Rw) = _
    rw [show ratN false 1 1 = 1 from rfl, show qn 1 = false from rfl, show qt 1 = 1 from rfl, show qd 1 = 1 from rfl, digs_one1]
  · show rwq (ratN true (val [1]) (val [1])) = _
    rw [val_one]
    show (⟨qn (ratN true 1 1), digs (qt (ratN true 1 1)), digs (qd (ratN true 1 1))⟩ : Rw) = _
    rw [show ratN true 1 1 = -1 from rfl, show qn (-1) = true from rfl, show qt (-1) = 1 from rfl, show qd (-1) = 1 from rfl, digs_one1]
/-- what body gives -/
def RetBd (w : World) (x : Option (Rw × Rw × Int)) (e : Ending) (w' : World) : Prop :=
  match x with
  | none => e = .returned (.tuple #[.agg #[.bool false, .slice none 0 0, .slice none 0 0, .bool false, .slice none 0 0, .slice none 0 0], .int .i64 0, .bool false]) ∧ Below w.heap.size w w'
  | some (r, i, f) => ∃ A1 c1 D1 d1 A2 c2 D2 d2, e = .returned (.tuple #[.agg #[.bool r.s, .slice A1 r.a.length c1, .slice D1 r.b.length d1, .bool i.s, .slice A2 i.a.length c2, .slice D2 i.b.length d2], .int .i64 f, .bool true]) ∧
    OW w' w.heap.size A1 c1 r.a ∧ OW w' w.heap.size D1 d1 r.b ∧ OW w' w.heap.size A2 c2 i.a ∧ OW w' w.heap.size D2 d2 i.b ∧ Below w.heap.size w w'


set_option maxRecDepth 100000 in
set_option maxHeartbeats 16000000 in
theorem rbody_any (s : ByteArray) (r : Nat) (w : World) (hs : s.size ≤ 140737488351232) (hr1 : 2 ≤ r) (hr2 : r ≤ 36) :
    Calls Try.prog 17 #[.string s, .int .i64 (r : Int)] w (RetBd w (bodyR (isDr r) (rdr r) mkr (rwq 0) s.data.toList)) := by
  obtain ⟨zq, hzq⟩ : ∃ zq, rwq 0 = zq := ⟨_, rfl⟩
  rw [hzq]
  have HZ := Lib.hid hzq
  clear hzq
  have hsl := s_len s
  have HSL := Lib.hid hsl
  clear hsl
  have Ba := bal w (.cells #[.bool false, .slice none 0 0, .slice none 0 0, .bool false, .slice none 0 0, .slice none 0 0] 26)
  have Bb := bal (w.alloc (.cells #[.bool false, .slice none 0 0, .slice none 0 0, .bool false, .slice none 0 0, .slice none 0 0] 26)) (.cells #[.int .u32 (1 : Int)] 52)
  have Bc := bal ((w.alloc (.cells #[.bool false, .slice none 0 0, .slice none 0 0, .bool false, .slice none 0 0, .slice none 0 0] 26)).alloc (.cells #[.int .u32 (1 : Int)] 52)) (.cells #[.int .u32 (1 : Int)] 52)
  have Bd := bal (((w.alloc (.cells #[.bool false, .slice none 0 0, .slice none 0 0, .bool false, .slice none 0 0, .slice none 0 0] 26)).alloc (.cells #[.int .u32 (1 : Int)] 52)).alloc (.cells #[.int .u32 (1 : Int)] 52)) (.cells #[.bool false, .slice (some ⟨w.heap.size + 1, 0, none⟩) 1 1, .slice (some ⟨w.heap.size + 2, 0, none⟩) 1 1] 24)
  have za : (w.alloc (.cells #[.bool false, .slice none 0 0, .slice none 0 0, .bool false, .slice none 0 0, .slice none 0 0] 26)).heap.size = w.heap.size + 1 := by simp
  have zb : ((w.alloc (.cells #[.bool false, .slice none 0 0, .slice none 0 0, .bool false, .slice none 0 0, .slice none 0 0] 26)).alloc (.cells #[.int .u32 (1 : Int)] 52)).heap.size = w.heap.size + 2 := by simp
  have zc : (((w.alloc (.cells #[.bool false, .slice none 0 0, .slice none 0 0, .bool false, .slice none 0 0, .slice none 0 0] 26)).alloc (.cells #[.int .u32 (1 : Int)] 52)).alloc (.cells #[.int .u32 (1 : Int)] 52)).heap.size = w.heap.size + 3 := by simp
  have X4 := (((SB.new w [.bool false, .slice none 0 0, .slice none 0 0, .bool false, .slice none 0 0, .slice none 0 0] 26).nx Bb).nx Bc).nx Bd
  have X7 := SB.new (((w.alloc (.cells #[.bool false, .slice none 0 0, .slice none 0 0, .bool false, .slice none 0 0, .slice none 0 0] 26)).alloc (.cells #[.int .u32 (1 : Int)] 52)).alloc (.cells #[.int .u32 (1 : Int)] 52)) [.bool false, .slice (some ⟨w.heap.size + 1, 0, none⟩) 1 1, .slice (some ⟨w.heap.size + 2, 0, none⟩) 1 1] 24
  rw [zc] at X7
  have Oo1 := OW.lit (w.alloc (.cells #[.bool false, .slice none 0 0, .slice none 0 0, .bool false, .slice none 0 0, .slice none 0 0] 26)) [1] (by simp) (by rw [← digs_one1]; exact B32_digs 1)
  have Oo2 := OW.lit ((w.alloc (.cells #[.bool false, .slice none 0 0, .slice none 0 0, .bool false, .slice none 0 0, .slice none 0 0] 26)).alloc (.cells #[.int .u32 (1 : Int)] 52)) [1] (by simp) (by rw [← digs_one1]; exact B32_digs 1)
  rw [za] at Oo1
  rw [zb] at Oo2
  have Oo1 : OW ((w.alloc (.cells #[.bool false, .slice none 0 0, .slice none 0 0, .bool false, .slice none 0 0, .slice none 0 0] 26)).alloc (.cells #[.int .u32 (1 : Int)] 52)) (w.heap.size + 1) (some ⟨w.heap.size + 1, 0, none⟩) 1 [1] := Oo1
  have Oo2 : OW (((w.alloc (.cells #[.bool false, .slice none 0 0, .slice none 0 0, .bool false, .slice none 0 0, .slice none 0 0] 26)).alloc (.cells #[.int .u32 (1 : Int)] 52)).alloc (.cells #[.int .u32 (1 : Int)] 52)) (w.heap.size + 2) (some ⟨w.heap.size + 2, 0, none⟩) 1 [1] := Oo2
  replace Oo1 := (Oo1.below Bc (Nat.le_refl _)).below Bd (Nat.le_refl _)
  replace Oo2 := (Oo2.below Bd (Nat.le_refl _)).base_le (show w.heap.size + 1 ≤ w.heap.size + 2 by omega)
  have B := bt (bt Ba Bb) (bt Bc Bd)
  clear Ba Bb Bc Bd za zb zc
  obtain ⟨W0, hW0⟩ : ∃ W0, W0 = ((((w.alloc (.cells #[.bool false, .slice none 0 0, .slice none 0 0, .bool false, .slice none 0 0, .slice none 0 0] 26)).alloc (.cells #[.int .u32 (1 : Int)] 52)).alloc (.cells #[.int .u32 (1 : Int)] 52)).alloc (.cells #[.bool false, .slice (some ⟨w.heap.size + 1, 0, none⟩) 1 1, .slice (some ⟨w.heap.size + 2, 0, none⟩) 1 1] 24)) := ⟨_, rfl⟩
  rw [← hW0] at X4 X7 Oo1 Oo2 B
  go_enter Try.func17, Try.ntmps17
  go_wp2_with fail
  rw [← hW0]
  clear hW0
  have hn := rsigned_any s 0 W0
  have hss := sgn_split (l := s.data.toList) (k := 0)
  rw [List.drop_zero] at hn hss
  rcases hss with ⟨neg, hkl2, hx1, tneg⟩ | hx1
  · have h0 : 0 < s.size := by have := HSL.out; omega
    have e1 := s_at h0
    rw [hx1] at hn
    have hn2 := rends_any s 1 W0 hs
    replace hx1 := Lib.hid hx1
    refine hn.mono ?_; rintro e' w9 ⟨rfl, rfl⟩
    clear hn
    have h0i : (0 : Int) < (s.size : Int) := by omega
    go_wp2_with fail
    refine hn2.mono ?_; rintro e' w9 ⟨rfl, rfl⟩
    clear hn2 e1 tneg h0i
    by_cases hu1 : unitB (s.data.toList.drop 1) = true
    · rw [hu1]
      cases neg
      · go_wp2_with fail
        have HE := (bd_1 (isD := isDr r) (rd := rdr r) (mk := mkr) (zz := zq) hx1.out hu1)
        rw [one_rw] at HE
        replace HE := Lib.hid HE
        replace X4 := X4.dr
        replace X7 := X7.dr
        replace Oo1 := Oo1.dr
        replace Oo2 := Oo2.dr
        replace B : Below w.heap.size w W0.drew := bdN B 1
        refine AnyW.regionQ (fun _ => false) 6 (fun w' => w'.cell? ⟨(w.heap.size + 3), 0, none⟩ = some (.bool false) ∧ w'.cell? ⟨(w.heap.size + 3), 1, none⟩ = some (.slice (some ⟨w.heap.size + 1, 0, none⟩) 1 1) ∧ w'.cell? ⟨(w.heap.size + 3), 2, none⟩ = some (.slice (some ⟨w.heap.size + 2, 0, none⟩) 1 1)) rfl (by kernel_rfl) (by kernel_rfl) (by (repeat (with_reducible (first | refine quiet_then ?_ | refine quiet_block ?_))); exact quiet_body) ⟨(X7.cell 0), (X7.cell 1), (X7.cell 2)⟩ (fun Q' hQK hq hns hHeld => ?_)
        generalize W0.drew = wd at *
        refine AnyW.next (i := 1) (v := ?_) hq hns hHeld rfl rfl (by kernel_rfl) (Or.inl ⟨by rfl, ?_⟩) ?_
        rotate_left
        · intro w' hSw; (try dsimp only at hSw); go_simp <;> with_reducible rfl
        try simp only [List.setIfInBounds_toArray, List.set_cons_zero, List.set_cons_succ]
        refine AnyW.one 0 (by kernel_rfl) rfl (fun K' hK => ?_)
        go_simp
        have hz := rzero_rw wd
        rw [HZ.out] at hz
        refine hz.mono ?_; rintro e' wz ⟨Az, cz, Dz, dz, rfl, Oz1, Oz2, BX⟩
        clear hz
        have hbz : w.heap.size + 1 ≤ wd.heap.size := by have := X7.lt; omega
        replace Oz1 := Oz1.base_le hbz
        replace Oz2 := Oz2.base_le hbz
        clear hbz
        go_wp2_with fail
        replace X4 := X4.nx BX
        replace X7 := X7.nx BX
        replace Oo1 := Oo1.below BX (Nat.le_refl _)
        replace Oo2 := Oo2.below BX (Nat.le_refl _)
        replace B := bt B BX
        clear BX
        refine hK.out _ _ (.inr ⟨(X7.cell 0), (X7.cell 1), (X7.cell 2)⟩) (fun hG => ?_)
        have hHeld := hG.resolve_left (notGone.spec (by rfl))
        clear hK K' hG
        try simp only [List.setIfInBounds_toArray, List.set_cons_zero, List.set_cons_succ]
        refine AnyW.nextT (i := 2) (v := ?_) hq hns (.inr hHeld) rfl rfl (by kernel_rfl) (Or.inl ⟨by rfl, ?_⟩) ?_
        rotate_left
        · intro w' _; go_simp <;> with_reducible rfl
        try simp only [List.setIfInBounds_toArray, List.set_cons_zero, List.set_cons_succ]
        refine AnyW.one 3 (by kernel_rfl) rfl (fun K' hK => ?_)
        have hRC := X4.rc (n := 6)
        refine step_st6 rfl (.tmp 4) (.tmp 35) rfl w.heap.size rfl _ _ _ _ _ _ rfl hRC rfl rfl rfl rfl rfl rfl ?_
        have s6 := hRC.put6 (.bool zq.s) (.slice Az zq.a.length cz) (.slice Dz zq.b.length dz) (.bool false) (.slice (some ⟨w.heap.size + 1, 0, none⟩) 1 1) (.slice (some ⟨w.heap.size + 2, 0, none⟩) 1 1)
        replace X7 := X7.wr6 (r := w.heap.size) (by omega) (.bool zq.s) (.slice Az zq.a.length cz) (.slice Dz zq.b.length dz) (.bool false) (.slice (some ⟨w.heap.size + 1, 0, none⟩) 1 1) (.slice (some ⟨w.heap.size + 2, 0, none⟩) 1 1)
        replace Oo1 := Oo1.put6 (b := w.heap.size) (by omega) (.bool zq.s) (.slice Az zq.a.length cz) (.slice Dz zq.b.length dz) (.bool false) (.slice (some ⟨w.heap.size + 1, 0, none⟩) 1 1) (.slice (some ⟨w.heap.size + 2, 0, none⟩) 1 1)
        replace Oo2 := Oo2.put6 (b := w.heap.size) (by omega) (.bool zq.s) (.slice Az zq.a.length cz) (.slice Dz zq.b.length dz) (.bool false) (.slice (some ⟨w.heap.size + 1, 0, none⟩) 1 1) (.slice (some ⟨w.heap.size + 2, 0, none⟩) 1 1)
        replace Oz1 := Oz1.put6 (b := w.heap.size) (by omega) (.bool zq.s) (.slice Az zq.a.length cz) (.slice Dz zq.b.length dz) (.bool false) (.slice (some ⟨w.heap.size + 1, 0, none⟩) 1 1) (.slice (some ⟨w.heap.size + 2, 0, none⟩) 1 1)
        replace Oz2 := Oz2.put6 (b := w.heap.size) (by omega) (.bool zq.s) (.slice Az zq.a.length cz) (.slice Dz zq.b.length dz) (.bool false) (.slice (some ⟨w.heap.size + 1, 0, none⟩) 1 1) (.slice (some ⟨w.heap.size + 2, 0, none⟩) 1 1)
        replace B := wr6_below (b := w.heap.size) B (Nat.le_refl _) (.bool zq.s) (.slice Az zq.a.length cz) (.slice Dz zq.b.length dz) (.bool false) (.slice (some ⟨w.heap.size + 1, 0, none⟩) 1 1) (.slice (some ⟨w.heap.size + 2, 0, none⟩) 1 1)
        clear X4
        refine hK.out _ _ (.inr ⟨(X7.cell 0), (X7.cell 1), (X7.cell 2)⟩) (fun hG => ?_)
        have hHeld := hG.resolve_left (notGone.spec (by rfl))
        clear hK K' hG
        try simp only [List.setIfInBounds_toArray, List.set_cons_zero, List.set_cons_succ]
        refine AnyW.nextT (i := 4) (v := ?_) hq hns (.inr hHeld) rfl rfl (by kernel_rfl) (Or.inl ⟨by rfl, ?_⟩) ?_
        rotate_left
        · intro w' _; go_simp <;> with_reducible rfl
        try simp only [List.setIfInBounds_toArray, List.set_cons_zero, List.set_cons_succ]
        refine AnyW.nextT (i := 5) (v := ?_) hq hns (.inr hHeld) rfl rfl (by kernel_rfl) (Or.inl ⟨by rfl, ?_⟩) ?_
        rotate_left
        · intro w' _; go_simp <;> with_reducible rfl
        try simp only [List.setIfInBounds_toArray, List.set_cons_zero, List.set_cons_succ]
        refine AnyW.done (by kernel_rfl) (hQK.out _ _ ?_)
        clear hQK hq hns hHeld
        have r0' := s6.cell 0
        have r1' := s6.cell 1
        have r2' := s6.cell 2
        have r3' := s6.cell 3
        have r4' := s6.cell 4
        have r5' := s6.cell 5
        go_wp2_with fail
        refine bodyPost_ret (v := .tuple #[.agg #[.bool zq.s, .slice Az zq.a.length cz, .slice Dz zq.b.length dz, .bool false, .slice (some ⟨w.heap.size + 1, 0, none⟩) 1 1, .slice (some ⟨w.heap.size + 2, 0, none⟩) 1 1], .int .i64 0, .bool true]) (by simp [results, r0', r1', r2', r3', r4', r5', go_sem]) rfl ?_
        rw [HE.out]
        exact ⟨Az, cz, Dz, dz, (some ⟨w.heap.size + 1, 0, none⟩), 1, (some ⟨w.heap.size + 2, 0, none⟩), 1, rfl, Oz1.base_le (Nat.le_succ _), Oz2.base_le (Nat.le_succ _), Oo1.base_le (Nat.le_succ _), Oo2.base_le (Nat.le_succ _), B⟩
      · go_wp2_with fail
        have HE := (bd_1 (isD := isDr r) (rd := rdr r) (mk := mkr) (zz := zq) hx1.out hu1)
        rw [one_rw] at HE
        replace HE := Lib.hid HE
        replace X4 := X4.dr
        replace X7 := X7.dr
        replace Oo1 := Oo1.dr
        replace Oo2 := Oo2.dr
        replace B : Below w.heap.size w W0.drew := bdN B 1
        refine AnyW.regionQ (fun _ => false) 7 (fun w' => w'.cell? ⟨(w.heap.size + 3), 0, none⟩ = some (.bool false) ∧ w'.cell? ⟨(w.heap.size + 3), 1, none⟩ = some (.slice (some ⟨w.heap.size + 1, 0, none⟩) 1 1) ∧ w'.cell? ⟨(w.heap.size + 3), 2, none⟩ = some (.slice (some ⟨w.heap.size + 2, 0, none⟩) 1 1)) rfl (by kernel_rfl) (by kernel_rfl) (by (repeat (with_reducible (first | refine quiet_then ?_ | refine quiet_block ?_))); exact quiet_body) ⟨(X7.cell 0), (X7.cell 1), (X7.cell 2)⟩ (fun Q' hQK hq hns hHeld => ?_)
        generalize W0.drew = wd at *
        refine AnyW.next (i := 1) (v := ?_) hq hns hHeld rfl rfl (by kernel_rfl) (Or.inl ⟨by rfl, ?_⟩) ?_
        rotate_left
        · intro w' hSw; (try dsimp only at hSw); go_simp <;> with_reducible rfl
        try simp only [List.setIfInBounds_toArray, List.set_cons_zero, List.set_cons_succ]
        refine AnyW.one 0 (by kernel_rfl) rfl (fun K' hK => ?_)
        go_simp
        have hz := rzero_rw wd
        rw [HZ.out] at hz
        refine hz.mono ?_; rintro e' wz ⟨Az, cz, Dz, dz, rfl, Oz1, Oz2, BX⟩
        clear hz
        have hbz : w.heap.size + 1 ≤ wd.heap.size := by have := X7.lt; omega
        replace Oz1 := Oz1.base_le hbz
        replace Oz2 := Oz2.base_le hbz
        clear hbz
        go_wp2_with fail
        replace X4 := X4.nx BX
        replace X7 := X7.nx BX
        replace Oo1 := Oo1.below BX (Nat.le_refl _)
        replace Oo2 := Oo2.below BX (Nat.le_refl _)
        replace B := bt B BX
        clear BX
        refine hK.out _ _ (.inr ⟨(X7.cell 0), (X7.cell 1), (X7.cell 2)⟩) (fun hG => ?_)
        have hHeld := hG.resolve_left (notGone.spec (by rfl))
        clear hK K' hG
        try simp only [List.setIfInBounds_toArray, List.set_cons_zero, List.set_cons_succ]
        refine AnyW.one 2 (by kernel_rfl) rfl (fun K' hK => ?_)
        go_simp
        have hm := rminus_raw false (some ⟨w.heap.size + 1, 0, none⟩) (some ⟨w.heap.size + 2, 0, none⟩) 1 1 1 1 wz
        rw [show (!false && decide (0 < 1)) = true from rfl] at hm
        refine hm.mono ?_; rintro e' wm ⟨rfl, BX⟩
        clear hm
        go_wp2_with fail
        replace X4 := X4.nx BX
        replace X7 := X7.nx BX
        replace Oo1 := Oo1.below BX (Nat.le_refl _)
        replace Oo2 := Oo2.below BX (Nat.le_refl _)
        replace Oz1 := Oz1.below BX (Nat.le_refl _)
        replace Oz2 := Oz2.below BX (Nat.le_refl _)
        replace B := bt B BX
        clear BX
        refine hK.out _ _ (.inr ⟨(X7.cell 0), (X7.cell 1), (X7.cell 2)⟩) (fun hG => ?_)
        have hHeld := hG.resolve_left (notGone.spec (by rfl))
        clear hK K' hG
        try simp only [List.setIfInBounds_toArray, List.set_cons_zero, List.set_cons_succ]
        refine AnyW.nextT (i := 3) (v := ?_) hq hns (.inr hHeld) rfl rfl (by kernel_rfl) (Or.inl ⟨by rfl, ?_⟩) ?_
        rotate_left
        · intro w' _; go_simp <;> with_reducible rfl
        try simp only [List.setIfInBounds_toArray, List.set_cons_zero, List.set_cons_succ]
        refine AnyW.one 4 (by kernel_rfl) rfl (fun K' hK => ?_)
        have hRC := X4.rc (n := 6)
        refine step_st6 rfl (.tmp 4) (.tmp 32) rfl w.heap.size rfl _ _ _ _ _ _ rfl hRC rfl rfl rfl rfl rfl rfl ?_
        have s6 := hRC.put6 (.bool zq.s) (.slice Az zq.a.length cz) (.slice Dz zq.b.length dz) (.bool true) (.slice (some ⟨w.heap.size + 1, 0, none⟩) 1 1) (.slice (some ⟨w.heap.size + 2, 0, none⟩) 1 1)
        replace X7 := X7.wr6 (r := w.heap.size) (by omega) (.bool zq.s) (.slice Az zq.a.length cz) (.slice Dz zq.b.length dz) (.bool true) (.slice (some ⟨w.heap.size + 1, 0, none⟩) 1 1) (.slice (some ⟨w.heap.size + 2, 0, none⟩) 1 1)
        replace Oo1 := Oo1.put6 (b := w.heap.size) (by omega) (.bool zq.s) (.slice Az zq.a.length cz) (.slice Dz zq.b.length dz) (.bool true) (.slice (some ⟨w.heap.size + 1, 0, none⟩) 1 1) (.slice (some ⟨w.heap.size + 2, 0, none⟩) 1 1)
        replace Oo2 := Oo2.put6 (b := w.heap.size) (by omega) (.bool zq.s) (.slice Az zq.a.length cz) (.slice Dz zq.b.length dz) (.bool true) (.slice (some ⟨w.heap.size + 1, 0, none⟩) 1 1) (.slice (some ⟨w.heap.size + 2, 0, none⟩) 1 1)
        replace Oz1 := Oz1.put6 (b := w.heap.size) (by omega) (.bool zq.s) (.slice Az zq.a.length cz) (.slice Dz zq.b.length dz) (.bool true) (.slice (some ⟨w.heap.size + 1, 0, none⟩) 1 1) (.slice (some ⟨w.heap.size + 2, 0, none⟩) 1 1)
        replace Oz2 := Oz2.put6 (b := w.heap.size) (by omega) (.bool zq.s) (.slice Az zq.a.length cz) (.slice Dz zq.b.length dz) (.bool true) (.slice (some ⟨w.heap.size + 1, 0, none⟩) 1 1) (.slice (some ⟨w.heap.size + 2, 0, none⟩) 1 1)
        replace B := wr6_below (b := w.heap.size) B (Nat.le_refl _) (.bool zq.s) (.slice Az zq.a.length cz) (.slice Dz zq.b.length dz) (.bool true) (.slice (some ⟨w.heap.size + 1, 0, none⟩) 1 1) (.slice (some ⟨w.heap.size + 2, 0, none⟩) 1 1)
        clear X4
        refine hK.out _ _ (.inr ⟨(X7.cell 0), (X7.cell 1), (X7.cell 2)⟩) (fun hG => ?_)
        have hHeld := hG.resolve_left (notGone.spec (by rfl))
        clear hK K' hG
        try simp only [List.setIfInBounds_toArray, List.set_cons_zero, List.set_cons_succ]
        refine AnyW.nextT (i := 5) (v := ?_) hq hns (.inr hHeld) rfl rfl (by kernel_rfl) (Or.inl ⟨by rfl, ?_⟩) ?_
        rotate_left
        · intro w' _; go_simp <;> with_reducible rfl
        try simp only [List.setIfInBounds_toArray, List.set_cons_zero, List.set_cons_succ]
        refine AnyW.nextT (i := 6) (v := ?_) hq hns (.inr hHeld) rfl rfl (by kernel_rfl) (Or.inl ⟨by rfl, ?_⟩) ?_
        rotate_left
        · intro w' _; go_simp <;> with_reducible rfl
        try simp only [List.setIfInBounds_toArray, List.set_cons_zero, List.set_cons_succ]
        refine AnyW.done (by kernel_rfl) (hQK.out _ _ ?_)
        clear hQK hq hns hHeld
        have r0' := s6.cell 0
        have r1' := s6.cell 1
        have r2' := s6.cell 2
        have r3' := s6.cell 3
        have r4' := s6.cell 4
        have r5' := s6.cell 5
        go_wp2_with fail
        refine bodyPost_ret (v := .tuple #[.agg #[.bool zq.s, .slice Az zq.a.length cz, .slice Dz zq.b.length dz, .bool true, .slice (some ⟨w.heap.size + 1, 0, none⟩) 1 1, .slice (some ⟨w.heap.size + 2, 0, none⟩) 1 1], .int .i64 0, .bool true]) (by simp [results, r0', r1', r2', r3', r4', r5', go_sem]) rfl ?_
        rw [HE.out]
        exact ⟨Az, cz, Dz, dz, (some ⟨w.heap.size + 1, 0, none⟩), 1, (some ⟨w.heap.size + 2, 0, none⟩), 1, rfl, Oz1.base_le (Nat.le_succ _), Oz2.base_le (Nat.le_succ _), Oo1.base_le (Nat.le_succ _), Oo2.base_le (Nat.le_succ _), B⟩
    · rw [Bool.eq_false_iff.2 hu1]
      replace hu1 := Lib.hid hu1
      go_wp2_with fail
      have hpz : 1 ≤ s.size := by have := HSL.out; omega
      have hq := rpiece_any s (1) r neg W0 hs hpz hr1 hr2
      rw [HZ.out] at hq
      cases hp1 : pieceR (isDr r) (rdr r) mkr zq (s.data.toList.drop 1) neg with
      | none =>
        rw [hp1] at hq
        refine hq.mono ?_; rintro e' w10 ⟨x, Ar, cr, Dr, dr, rfl, Ox1, Ox2, BX⟩
        clear hq
        have hbz : w.heap.size + 1 ≤ W0.heap.size := by have := X7.lt; omega
        replace Ox1 := Ox1.base_le hbz
        replace Ox2 := Ox2.base_le hbz
        clear hbz
        replace X4 := X4.nx BX
        replace X7 := X7.nx BX
        replace Oo1 := Oo1.below BX (Nat.le_refl _)
        replace Oo2 := Oo2.below BX (Nat.le_refl _)
        replace B := bt B BX
        have Bc := bal w10 (.cells #[.bool x.s, .slice Ar x.a.length cr, .slice Dr x.b.length dr] 24)
        clear BX
        replace X4 := X4.nx Bc
        replace B := bt B Bc
        clear Bc Ox1 Ox2
        have HE := Lib.hid (bd_2 (isD := isDr r) (rd := rdr r) (mk := mkr) (zz := zq) hx1.out (fun h => hu1.out h.2) hp1)
        have hRC := X4.rc (n := 6)
        have s6 := hRC.put6 (.bool false) (.slice none 0 0) (.slice none 0 0) (.bool false) (.slice none 0 0) (.slice none 0 0)
        have B6 := wr6_below (b := w.heap.size) B (Nat.le_refl _) (.bool false) (.slice none 0 0) (.slice none 0 0) (.bool false) (.slice none 0 0) (.slice none 0 0)
        go_wp2_with (refine wp_st6 rfl (.tmp 4) (.tmp 47) rfl _ rfl _ _ _ _ _ _ rfl hRC rfl rfl rfl rfl rfl rfl ?_)
        have r0' := s6.cell 0
        have r1' := s6.cell 1
        have r2' := s6.cell 2
        have r3' := s6.cell 3
        have r4' := s6.cell 4
        have r5' := s6.cell 5
        refine bodyPost_ret (v := .tuple #[.agg #[.bool false, .slice none 0 0, .slice none 0 0, .bool false, .slice none 0 0, .slice none 0 0], .int .i64 0, .bool false]) (by simp [results, r0', r1', r2', r3', r4', r5', go_sem]) rfl ?_
        rw [HE.out]
        exact ⟨rfl, B6⟩
      | some q =>
        obtain ⟨s2, x, e⟩ := q
        rw [hp1] at hq
        refine hq.mono ?_; rintro e' w10 ⟨k1, Ar, cr, Dr, dr, rfl, hk1, hd1, Ox1, Ox2, BX⟩
        clear hq
        have hbz : w.heap.size + 1 ≤ W0.heap.size := by have := X7.lt; omega
        replace Ox1 := Ox1.base_le hbz
        replace Ox2 := Ox2.base_le hbz
        clear hbz
        replace X4 := X4.nx BX
        replace X7 := X7.nx BX
        replace Oo1 := Oo1.below BX (Nat.le_refl _)
        replace Oo2 := Oo2.below BX (Nat.le_refl _)
        replace B := bt B BX
        clear BX
        have hx7_ := X7.lt
        have Bc := bal w10 (.cells #[.bool x.s, .slice Ar x.a.length cr, .slice Dr x.b.length dr] 24)
        have X12 := SB.new w10 [.bool x.s, .slice Ar x.a.length cr, .slice Dr x.b.length dr] 24
        replace X4 := X4.nx Bc
        replace X7 := X7.nx Bc
        replace Oo1 := Oo1.below Bc (Nat.le_refl _)
        replace Oo2 := Oo2.below Bc (Nat.le_refl _)
        replace Ox1 := Ox1.below Bc (Nat.le_refl _)
        replace Ox2 := Ox2.below Bc (Nat.le_refl _)
        replace B := bt B Bc
        clear Bc
        obtain ⟨g12, hg12⟩ : ∃ g12, w10.heap.size = g12 := ⟨_, rfl⟩
        have hg12b : w.heap.size + 3 < g12 := by rw [← hg12]; exact hx7_
        obtain ⟨w12, hw12⟩ : ∃ w12, w12 = w10.alloc (.cells #[.bool x.s, .slice Ar x.a.length cr, .slice Dr x.b.length dr] 24) := ⟨_, rfl⟩
        rw [← hw12] at X4 X7 X12 Oo1 Oo2 Ox1 Ox2 B
        go_upto_region 13 with fail
        rw [← hw12]
        rw [hg12] at X12
        clear hw12 hg12 hx7_
        by_cases he : k1 = s.size
        · have hs2 : s2 = [] := by rw [← hd1]; exact List.drop_eq_nil_of_le (by rw [HSL.out]; omega)
          have te : ((k1 : Int) == (s.size : Int)) = true := beq_iff_eq.2 (by omega)
          have tn : decide ((k1 : Int) < 0) = false := decide_eq_false (by omega)
          clear he
          go_wp2_with fail
          have HE := Lib.hid (bd_3 (isD := isDr r) (rd := rdr r) (mk := mkr) (zz := zq) hx1.out (fun h => hu1.out h.2) hp1 hs2)
          replace X4 := X4.dr
          replace X7 := X7.dr
          replace X12 := X12.dr
          replace Oo1 := Oo1.dr
          replace Oo2 := Oo2.dr
          replace Ox1 := Ox1.dr
          replace Ox2 := Ox2.dr
          replace B : Below w.heap.size w w12.drew := bdN B 1
          refine AnyW.regionQ (fun _ => false) 7 (fun w' => w'.cell? ⟨g12, 0, none⟩ = some (.bool x.s) ∧ w'.cell? ⟨g12, 1, none⟩ = some (.slice Ar x.a.length cr) ∧ w'.cell? ⟨g12, 2, none⟩ = some (.slice Dr x.b.length dr)) rfl (by kernel_rfl) (by kernel_rfl) (by (repeat (with_reducible (first | refine quiet_then ?_ | refine quiet_block ?_))); exact quiet_body) ⟨(X12.cell 0), (X12.cell 1), (X12.cell 2)⟩ (fun Q' hQK hq hns hHeld => ?_)
          generalize w12.drew = wd at *
          refine AnyW.next (i := 0) (v := ?_) hq hns hHeld rfl rfl (by kernel_rfl) (Or.inl ⟨by rfl, ?_⟩) ?_
          rotate_left
          · intro w' hSw; (try dsimp only at hSw); go_simp <;> with_reducible rfl
          try simp only [List.setIfInBounds_toArray, List.set_cons_zero, List.set_cons_succ]
          refine AnyW.nextT (i := 3) (v := ?_) hq hns (.inr hHeld) rfl rfl (by kernel_rfl) (Or.inl ⟨by rfl, ?_⟩) ?_
          rotate_left
          · intro w' _; go_simp <;> with_reducible rfl
          try simp only [List.setIfInBounds_toArray, List.set_cons_zero, List.set_cons_succ]
          refine AnyW.one 1 (by kernel_rfl) rfl (fun K' hK => ?_)
          go_simp
          have hz := rzero_rw wd
          rw [HZ.out] at hz
          refine hz.mono ?_; rintro e' wz ⟨Az, cz, Dz, dz, rfl, Oz1, Oz2, BX⟩
          clear hz
          have hbz : w.heap.size + 1 ≤ wd.heap.size := by have := X7.lt; omega
          replace Oz1 := Oz1.base_le hbz
          replace Oz2 := Oz2.base_le hbz
          clear hbz
          go_wp2_with fail
          replace X4 := X4.nx BX
          replace X7 := X7.nx BX
          replace X12 := X12.nx BX
          replace Oo1 := Oo1.below BX (Nat.le_refl _)
          replace Oo2 := Oo2.below BX (Nat.le_refl _)
          replace Ox1 := Ox1.below BX (Nat.le_refl _)
          replace Ox2 := Ox2.below BX (Nat.le_refl _)
          replace B := bt B BX
          clear BX
          refine hK.out _ _ (.inr ⟨(X12.cell 0), (X12.cell 1), (X12.cell 2)⟩) (fun hG => ?_)
          have hHeld := hG.resolve_left (notGone.spec (by rfl))
          clear hK K' hG
          try simp only [List.setIfInBounds_toArray, List.set_cons_zero, List.set_cons_succ]
          refine AnyW.nextT (i := 2) (v := ?_) hq hns (.inr hHeld) rfl rfl (by kernel_rfl) (Or.inl ⟨by rfl, ?_⟩) ?_
          rotate_left
          · intro w' _; go_simp <;> with_reducible rfl
          try simp only [List.setIfInBounds_toArray, List.set_cons_zero, List.set_cons_succ]
          refine AnyW.one 4 (by kernel_rfl) rfl (fun K' hK => ?_)
          have hRC := X4.rc (n := 6)
          refine step_st6 rfl (.tmp 4) (.tmp 54) rfl w.heap.size rfl _ _ _ _ _ _ rfl hRC rfl rfl rfl rfl rfl rfl ?_
          have s6 := hRC.put6 (.bool x.s) (.slice Ar x.a.length cr) (.slice Dr x.b.length dr) (.bool zq.s) (.slice Az zq.a.length cz) (.slice Dz zq.b.length dz)
          replace X7 := X7.wr6 (r := w.heap.size) (by omega) (.bool x.s) (.slice Ar x.a.length cr) (.slice Dr x.b.length dr) (.bool zq.s) (.slice Az zq.a.length cz) (.slice Dz zq.b.length dz)
          replace X12 := X12.wr6 (r := w.heap.size) (by omega) (.bool x.s) (.slice Ar x.a.length cr) (.slice Dr x.b.length dr) (.bool zq.s) (.slice Az zq.a.length cz) (.slice Dz zq.b.length dz)
          replace Oo1 := Oo1.put6 (b := w.heap.size) (by omega) (.bool x.s) (.slice Ar x.a.length cr) (.slice Dr x.b.length dr) (.bool zq.s) (.slice Az zq.a.length cz) (.slice Dz zq.b.length dz)
          replace Oo2 := Oo2.put6 (b := w.heap.size) (by omega) (.bool x.s) (.slice Ar x.a.length cr) (.slice Dr x.b.length dr) (.bool zq.s) (.slice Az zq.a.length cz) (.slice Dz zq.b.length dz)
          replace Ox1 := Ox1.put6 (b := w.heap.size) (by omega) (.bool x.s) (.slice Ar x.a.length cr) (.slice Dr x.b.length dr) (.bool zq.s) (.slice Az zq.a.length cz) (.slice Dz zq.b.length dz)
          replace Ox2 := Ox2.put6 (b := w.heap.size) (by omega) (.bool x.s) (.slice Ar x.a.length cr) (.slice Dr x.b.length dr) (.bool zq.s) (.slice Az zq.a.length cz) (.slice Dz zq.b.length dz)
          replace Oz1 := Oz1.put6 (b := w.heap.size) (by omega) (.bool x.s) (.slice Ar x.a.length cr) (.slice Dr x.b.length dr) (.bool zq.s) (.slice Az zq.a.length cz) (.slice Dz zq.b.length dz)
          replace Oz2 := Oz2.put6 (b := w.heap.size) (by omega) (.bool x.s) (.slice Ar x.a.length cr) (.slice Dr x.b.length dr) (.bool zq.s) (.slice Az zq.a.length cz) (.slice Dz zq.b.length dz)
          replace B := wr6_below (b := w.heap.size) B (Nat.le_refl _) (.bool x.s) (.slice Ar x.a.length cr) (.slice Dr x.b.length dr) (.bool zq.s) (.slice Az zq.a.length cz) (.slice Dz zq.b.length dz)
          clear X4
          refine hK.out _ _ (.inr ⟨(X12.cell 0), (X12.cell 1), (X12.cell 2)⟩) (fun hG => ?_)
          have hHeld := hG.resolve_left (notGone.spec (by rfl))
          clear hK K' hG
          try simp only [List.setIfInBounds_toArray, List.set_cons_zero, List.set_cons_succ]
          refine AnyW.nextT (i := 5) (v := ?_) hq hns (.inr hHeld) rfl rfl (by kernel_rfl) (Or.inl ⟨by rfl, ?_⟩) ?_
          rotate_left
          · intro w' _; go_simp <;> with_reducible rfl
          try simp only [List.setIfInBounds_toArray, List.set_cons_zero, List.set_cons_succ]
          refine AnyW.nextT (i := 6) (v := ?_) hq hns (.inr hHeld) rfl rfl (by kernel_rfl) (Or.inl ⟨by rfl, ?_⟩) ?_
          rotate_left
          · intro w' _; go_simp <;> with_reducible rfl
          try simp only [List.setIfInBounds_toArray, List.set_cons_zero, List.set_cons_succ]
          refine AnyW.done (by kernel_rfl) (hQK.out _ _ ?_)
          clear hQK hq hns hHeld
          have r0' := s6.cell 0
          have r1' := s6.cell 1
          have r2' := s6.cell 2
          have r3' := s6.cell 3
          have r4' := s6.cell 4
          have r5' := s6.cell 5
          go_wp2_with fail
          refine bodyPost_ret (v := .tuple #[.agg #[.bool x.s, .slice Ar x.a.length cr, .slice Dr x.b.length dr, .bool zq.s, .slice Az zq.a.length cz, .slice Dz zq.b.length dz], .int .i64 e, .bool true]) (by simp [results, r0', r1', r2', r3', r4', r5', go_sem]) rfl ?_
          rw [HE.out]
          exact ⟨Ar, cr, Dr, dr, Az, cz, Dz, dz, rfl, Ox1.base_le (Nat.le_succ _), Ox2.base_le (Nat.le_succ _), Oz1.base_le (Nat.le_succ _), Oz2.base_le (Nat.le_succ _), B⟩
        · have hs2 := Lib.hid (show ¬ s2 = [] by rw [← hd1]; intro h; have := congrArg List.length h; rw [List.length_drop, HSL.out, List.length_nil] at this; have h3 := HSL.out; omega)
          have te : ((k1 : Int) == (s.size : Int)) = false := beq_eq_false_iff_ne.2 (by omega)
          have tn : decide ((k1 : Int) < 0) = false := decide_eq_false (by omega)
          have hkl : k1 < s.size := by have h3 := HSL.out; omega
          clear he
          have hn := rends_any s k1 w12 hs
          rw [hd1] at hn
          go_wp2_with fail
          refine hn.mono ?_; rintro e' w9 ⟨rfl, rfl⟩
          clear hn te tn
          by_cases hu2 : unitB s2 = true
          · rw [hu2]
            go_wp2_with fail
            have HE := Lib.hid (bd_4 (isD := isDr r) (rd := rdr r) (mk := mkr) (zz := zq) hx1.out (fun h => hu1.out h.2) hp1 hs2.out ⟨rfl, hu2⟩)
            replace X4 := X4.dr
            replace X7 := X7.dr
            replace X12 := X12.dr
            replace Oo1 := Oo1.dr
            replace Oo2 := Oo2.dr
            replace Ox1 := Ox1.dr
            replace Ox2 := Ox2.dr
            replace B : Below w.heap.size w w12.drew := bdN B 1
            refine AnyW.regionQ (fun _ => false) 7 (fun w' => w'.cell? ⟨g12, 0, none⟩ = some (.bool x.s) ∧ w'.cell? ⟨g12, 1, none⟩ = some (.slice Ar x.a.length cr) ∧ w'.cell? ⟨g12, 2, none⟩ = some (.slice Dr x.b.length dr)) rfl (by kernel_rfl) (by kernel_rfl) (by (repeat (with_reducible (first | refine quiet_then ?_ | refine quiet_block ?_))); exact quiet_body) ⟨(X12.cell 0), (X12.cell 1), (X12.cell 2)⟩ (fun Q' hQK hq hns hHeld => ?_)
            generalize w12.drew = wd at *
            refine AnyW.next (i := 1) (v := ?_) hq hns hHeld rfl rfl (by kernel_rfl) (Or.inl ⟨by rfl, ?_⟩) ?_
            rotate_left
            · intro w' hSw; (try dsimp only at hSw); go_simp <;> with_reducible rfl
            try simp only [List.setIfInBounds_toArray, List.set_cons_zero, List.set_cons_succ]
            refine AnyW.nextT (i := 3) (v := ?_) hq hns (.inr hHeld) rfl rfl (by kernel_rfl) (Or.inl ⟨by rfl, ?_⟩) ?_
            rotate_left
            · intro w' _; go_simp <;> with_reducible rfl
            try simp only [List.setIfInBounds_toArray, List.set_cons_zero, List.set_cons_succ]
            refine AnyW.one 0 (by kernel_rfl) rfl (fun K' hK => ?_)
            go_simp
            have hz := rzero_rw wd
            rw [HZ.out] at hz
            refine hz.mono ?_; rintro e' wz ⟨Az, cz, Dz, dz, rfl, Oz1, Oz2, BX⟩
            clear hz
            have hbz : w.heap.size + 1 ≤ wd.heap.size := by have := X7.lt; omega
            replace Oz1 := Oz1.base_le hbz
            replace Oz2 := Oz2.base_le hbz
            clear hbz
            go_wp2_with fail
            replace X4 := X4.nx BX
            replace X7 := X7.nx BX
            replace X12 := X12.nx BX
            replace Oo1 := Oo1.below BX (Nat.le_refl _)
            replace Oo2 := Oo2.below BX (Nat.le_refl _)
            replace Ox1 := Ox1.below BX (Nat.le_refl _)
            replace Ox2 := Ox2.below BX (Nat.le_refl _)
            replace B := bt B BX
            clear BX
            refine hK.out _ _ (.inr ⟨(X12.cell 0), (X12.cell 1), (X12.cell 2)⟩) (fun hG => ?_)
            have hHeld := hG.resolve_left (notGone.spec (by rfl))
            clear hK K' hG
            try simp only [List.setIfInBounds_toArray, List.set_cons_zero, List.set_cons_succ]
            refine AnyW.nextT (i := 2) (v := ?_) hq hns (.inr hHeld) rfl rfl (by kernel_rfl) (Or.inl ⟨by rfl, ?_⟩) ?_
            rotate_left
            · intro w' _; go_simp <;> with_reducible rfl
            try simp only [List.setIfInBounds_toArray, List.set_cons_zero, List.set_cons_succ]
            refine AnyW.one 4 (by kernel_rfl) rfl (fun K' hK => ?_)
            have hRC := X4.rc (n := 6)
            refine step_st6 rfl (.tmp 4) (.tmp 64) rfl w.heap.size rfl _ _ _ _ _ _ rfl hRC rfl rfl rfl rfl rfl rfl ?_
            have s6 := hRC.put6 (.bool zq.s) (.slice Az zq.a.length cz) (.slice Dz zq.b.length dz) (.bool x.s) (.slice Ar x.a.length cr) (.slice Dr x.b.length dr)
            replace X7 := X7.wr6 (r := w.heap.size) (by omega) (.bool zq.s) (.slice Az zq.a.length cz) (.slice Dz zq.b.length dz) (.bool x.s) (.slice Ar x.a.length cr) (.slice Dr x.b.length dr)
            replace X12 := X12.wr6 (r := w.heap.size) (by omega) (.bool zq.s) (.slice Az zq.a.length cz) (.slice Dz zq.b.length dz) (.bool x.s) (.slice Ar x.a.length cr) (.slice Dr x.b.length dr)
            replace Oo1 := Oo1.put6 (b := w.heap.size) (by omega) (.bool zq.s) (.slice Az zq.a.length cz) (.slice Dz zq.b.length dz) (.bool x.s) (.slice Ar x.a.length cr) (.slice Dr x.b.length dr)
            replace Oo2 := Oo2.put6 (b := w.heap.size) (by omega) (.bool zq.s) (.slice Az zq.a.length cz) (.slice Dz zq.b.length dz) (.bool x.s) (.slice Ar x.a.length cr) (.slice Dr x.b.length dr)
            replace Ox1 := Ox1.put6 (b := w.heap.size) (by omega) (.bool zq.s) (.slice Az zq.a.length cz) (.slice Dz zq.b.length dz) (.bool x.s) (.slice Ar x.a.length cr) (.slice Dr x.b.length dr)
            replace Ox2 := Ox2.put6 (b := w.heap.size) (by omega) (.bool zq.s) (.slice Az zq.a.length cz) (.slice Dz zq.b.length dz) (.bool x.s) (.slice Ar x.a.length cr) (.slice Dr x.b.length dr)
            replace Oz1 := Oz1.put6 (b := w.heap.size) (by omega) (.bool zq.s) (.slice Az zq.a.length cz) (.slice Dz zq.b.length dz) (.bool x.s) (.slice Ar x.a.length cr) (.slice Dr x.b.length dr)
            replace Oz2 := Oz2.put6 (b := w.heap.size) (by omega) (.bool zq.s) (.slice Az zq.a.length cz) (.slice Dz zq.b.length dz) (.bool x.s) (.slice Ar x.a.length cr) (.slice Dr x.b.length dr)
            replace B := wr6_below (b := w.heap.size) B (Nat.le_refl _) (.bool zq.s) (.slice Az zq.a.length cz) (.slice Dz zq.b.length dz) (.bool x.s) (.slice Ar x.a.length cr) (.slice Dr x.b.length dr)
            clear X4
            refine hK.out _ _ (.inr ⟨(X12.cell 0), (X12.cell 1), (X12.cell 2)⟩) (fun hG => ?_)
            have hHeld := hG.resolve_left (notGone.spec (by rfl))
            clear hK K' hG
            try simp only [List.setIfInBounds_toArray, List.set_cons_zero, List.set_cons_succ]
            refine AnyW.nextT (i := 5) (v := ?_) hq hns (.inr hHeld) rfl rfl (by kernel_rfl) (Or.inl ⟨by rfl, ?_⟩) ?_
            rotate_left
            · intro w' _; go_simp <;> with_reducible rfl
            try simp only [List.setIfInBounds_toArray, List.set_cons_zero, List.set_cons_succ]
            refine AnyW.nextT (i := 6) (v := ?_) hq hns (.inr hHeld) rfl rfl (by kernel_rfl) (Or.inl ⟨by rfl, ?_⟩) ?_
            rotate_left
            · intro w' _; go_simp <;> with_reducible rfl
            try simp only [List.setIfInBounds_toArray, List.set_cons_zero, List.set_cons_succ]
            refine AnyW.done (by kernel_rfl) (hQK.out _ _ ?_)
            clear hQK hq hns hHeld
            have r0' := s6.cell 0
            have r1' := s6.cell 1
            have r2' := s6.cell 2
            have r3' := s6.cell 3
            have r4' := s6.cell 4
            have r5' := s6.cell 5
            go_wp2_with fail
            refine bodyPost_ret (v := .tuple #[.agg #[.bool zq.s, .slice Az zq.a.length cz, .slice Dz zq.b.length dz, .bool x.s, .slice Ar x.a.length cr, .slice Dr x.b.length dr], .int .i64 e, .bool true]) (by simp [results, r0', r1', r2', r3', r4', r5', go_sem]) rfl ?_
            rw [HE.out]
            exact ⟨Az, cz, Dz, dz, Ar, cr, Dr, dr, rfl, Oz1.base_le (Nat.le_succ _), Oz2.base_le (Nat.le_succ _), Ox1.base_le (Nat.le_succ _), Ox2.base_le (Nat.le_succ _), B⟩
          · rw [Bool.eq_false_iff.2 hu2]
            replace hu2 := Lib.hid hu2
            go_wp2_with fail
            have hn := rsigned_any s k1 w12
            rw [hd1] at hn
            have hss := sgn_split (l := s.data.toList) (k := k1)
            rw [hd1] at hss
            rcases hss with ⟨neg2, hkl2, hx3, tneg⟩ | hx3
            · have e1 := s_at hkl
              have hwr : IntKind.i64.wrap ((k1 : Int) + 1) = ((k1 + 1 : Nat) : Int) := (IntWalk.i64_in _ (by have h3 := HSL.out; omega)).trans (by omega)
              rw [hx3] at hn
              have hn2 := rends_any s (k1 + 1) w12 hs
              have k1p : (0 : Int) ≤ (k1 : Int) := by omega
              have k1s : (k1 : Int) < (s.size : Int) := by omega
              replace hx3 := Lib.hid hx3
              refine hn.mono ?_; rintro e' w9 ⟨rfl, rfl⟩
              clear hn
              go_wp2_with fail
              refine hn2.mono ?_; rintro e' w9 ⟨rfl, rfl⟩
              clear hn2 e1 tneg k1s
              by_cases hu3 : unitB (s.data.toList.drop (k1 + 1)) = true
              · rw [hu3]
                cases neg2
                · have HE := (bd_6 (isD := isDr r) (rd := rdr r) (mk := mkr) (zz := zq) hx1.out (fun h => hu1.out h.2) hp1 hs2.out (fun h => hu2.out h.2) hx3.out hu3)
                  rw [one_rw] at HE
                  replace HE := Lib.hid HE
                  have hRC := X4.rc (n := 6)
                  have a0 := X12.cell 0
                  have a1 := X12.cell 1
                  have a2 := X12.cell 2
                  have b0 := X7.cell 0
                  have b1 := X7.cell 1
                  have b2 := X7.cell 2
                  go_wp2_with (refine wp_st6 rfl (.tmp 4) (.tmp 87) rfl _ rfl _ _ _ _ _ _ rfl hRC rfl rfl rfl rfl rfl rfl ?_)
                  clear a0 a1 a2 b0 b1 b2
                  have s6 := hRC.put6 (.bool x.s) (.slice Ar x.a.length cr) (.slice Dr x.b.length dr) (.bool false) (.slice (some ⟨w.heap.size + 1, 0, none⟩) 1 1) (.slice (some ⟨w.heap.size + 2, 0, none⟩) 1 1)
                  replace X7 := X7.wr6 (r := w.heap.size) (by omega) (.bool x.s) (.slice Ar x.a.length cr) (.slice Dr x.b.length dr) (.bool false) (.slice (some ⟨w.heap.size + 1, 0, none⟩) 1 1) (.slice (some ⟨w.heap.size + 2, 0, none⟩) 1 1)
                  replace X12 := X12.wr6 (r := w.heap.size) (by omega) (.bool x.s) (.slice Ar x.a.length cr) (.slice Dr x.b.length dr) (.bool false) (.slice (some ⟨w.heap.size + 1, 0, none⟩) 1 1) (.slice (some ⟨w.heap.size + 2, 0, none⟩) 1 1)
                  replace Oo1 := Oo1.put6 (b := w.heap.size) (by omega) (.bool x.s) (.slice Ar x.a.length cr) (.slice Dr x.b.length dr) (.bool false) (.slice (some ⟨w.heap.size + 1, 0, none⟩) 1 1) (.slice (some ⟨w.heap.size + 2, 0, none⟩) 1 1)
                  replace Oo2 := Oo2.put6 (b := w.heap.size) (by omega) (.bool x.s) (.slice Ar x.a.length cr) (.slice Dr x.b.length dr) (.bool false) (.slice (some ⟨w.heap.size + 1, 0, none⟩) 1 1) (.slice (some ⟨w.heap.size + 2, 0, none⟩) 1 1)
                  replace Ox1 := Ox1.put6 (b := w.heap.size) (by omega) (.bool x.s) (.slice Ar x.a.length cr) (.slice Dr x.b.length dr) (.bool false) (.slice (some ⟨w.heap.size + 1, 0, none⟩) 1 1) (.slice (some ⟨w.heap.size + 2, 0, none⟩) 1 1)
                  replace Ox2 := Ox2.put6 (b := w.heap.size) (by omega) (.bool x.s) (.slice Ar x.a.length cr) (.slice Dr x.b.length dr) (.bool false) (.slice (some ⟨w.heap.size + 1, 0, none⟩) 1 1) (.slice (some ⟨w.heap.size + 2, 0, none⟩) 1 1)
                  replace B := wr6_below (b := w.heap.size) B (Nat.le_refl _) (.bool x.s) (.slice Ar x.a.length cr) (.slice Dr x.b.length dr) (.bool false) (.slice (some ⟨w.heap.size + 1, 0, none⟩) 1 1) (.slice (some ⟨w.heap.size + 2, 0, none⟩) 1 1)
                  clear X4
                  have r0' := s6.cell 0
                  have r1' := s6.cell 1
                  have r2' := s6.cell 2
                  have r3' := s6.cell 3
                  have r4' := s6.cell 4
                  have r5' := s6.cell 5
                  refine bodyPost_ret (v := .tuple #[.agg #[.bool x.s, .slice Ar x.a.length cr, .slice Dr x.b.length dr, .bool false, .slice (some ⟨w.heap.size + 1, 0, none⟩) 1 1, .slice (some ⟨w.heap.size + 2, 0, none⟩) 1 1], .int .i64 e, .bool true]) (by simp [results, r0', r1', r2', r3', r4', r5', go_sem]) rfl ?_
                  rw [HE.out]
                  exact ⟨Ar, cr, Dr, dr, (some ⟨w.heap.size + 1, 0, none⟩), 1, (some ⟨w.heap.size + 2, 0, none⟩), 1, rfl, Ox1.base_le (Nat.le_succ _), Ox2.base_le (Nat.le_succ _), Oo1.base_le (Nat.le_succ _), Oo2.base_le (Nat.le_succ _), B⟩
                · go_wp2_with fail
                  have HE := (bd_6 (isD := isDr r) (rd := rdr r) (mk := mkr) (zz := zq) hx1.out (fun h => hu1.out h.2) hp1 hs2.out (fun h => hu2.out h.2) hx3.out hu3)
                  rw [one_rw] at HE
                  replace HE := Lib.hid HE
                  replace X4 := X4.dr
                  replace X7 := X7.dr
                  replace X12 := X12.dr
                  replace Oo1 := Oo1.dr
                  replace Oo2 := Oo2.dr
                  replace Ox1 := Ox1.dr
                  replace Ox2 := Ox2.dr
                  replace B : Below w.heap.size w w12.drew := bdN B 1
                  refine AnyW.regionQ (fun _ => false) 8 (fun w' => w'.cell? ⟨g12, 0, none⟩ = some (.bool x.s) ∧ w'.cell? ⟨g12, 1, none⟩ = some (.slice Ar x.a.length cr) ∧ w'.cell? ⟨g12, 2, none⟩ = some (.slice Dr x.b.length dr) ∧ w'.cell? ⟨(w.heap.size + 3), 0, none⟩ = some (.bool false) ∧ w'.cell? ⟨(w.heap.size + 3), 1, none⟩ = some (.slice (some ⟨w.heap.size + 1, 0, none⟩) 1 1) ∧ w'.cell? ⟨(w.heap.size + 3), 2, none⟩ = some (.slice (some ⟨w.heap.size + 2, 0, none⟩) 1 1)) rfl (by kernel_rfl) (by kernel_rfl) (by (repeat (with_reducible (first | refine quiet_then ?_ | refine quiet_block ?_))); exact quiet_body) ⟨(X12.cell 0), (X12.cell 1), (X12.cell 2), (X7.cell 0), (X7.cell 1), (X7.cell 2)⟩ (fun Q' hQK hq hns hHeld => ?_)
                  generalize w12.drew = wd at *
                  refine AnyW.next (i := 0) (v := ?_) hq hns hHeld rfl rfl (by kernel_rfl) (Or.inl ⟨by rfl, ?_⟩) ?_
                  rotate_left
                  · intro w' hSw; (try dsimp only at hSw); go_simp <;> with_reducible rfl
                  try simp only [List.setIfInBounds_toArray, List.set_cons_zero, List.set_cons_succ]
                  refine AnyW.next (i := 1) (v := ?_) hq hns hHeld rfl rfl (by kernel_rfl) (Or.inl ⟨by rfl, ?_⟩) ?_
                  rotate_left
                  · intro w' hSw; (try dsimp only at hSw); go_simp <;> with_reducible rfl
                  try simp only [List.setIfInBounds_toArray, List.set_cons_zero, List.set_cons_succ]
                  refine AnyW.nextT (i := 4) (v := ?_) hq hns (.inr hHeld) rfl rfl (by kernel_rfl) (Or.inl ⟨by rfl, ?_⟩) ?_
                  rotate_left
                  · intro w' _; go_simp <;> with_reducible rfl
                  try simp only [List.setIfInBounds_toArray, List.set_cons_zero, List.set_cons_succ]
                  refine AnyW.one 2 (by kernel_rfl) rfl (fun K' hK => ?_)
                  go_simp
                  have hm := rminus_raw false (some ⟨w.heap.size + 1, 0, none⟩) (some ⟨w.heap.size + 2, 0, none⟩) 1 1 1 1 wd
                  rw [show (!false && decide (0 < 1)) = true from rfl] at hm
                  refine hm.mono ?_; rintro e' wm ⟨rfl, BX⟩
                  clear hm
                  go_wp2_with fail
                  replace X4 := X4.nx BX
                  replace X7 := X7.nx BX
                  replace X12 := X12.nx BX
                  replace Oo1 := Oo1.below BX (Nat.le_refl _)
                  replace Oo2 := Oo2.below BX (Nat.le_refl _)
                  replace Ox1 := Ox1.below BX (Nat.le_refl _)
                  replace Ox2 := Ox2.below BX (Nat.le_refl _)
                  replace B := bt B BX
                  clear BX
                  refine hK.out _ _ (.inr ⟨(X12.cell 0), (X12.cell 1), (X12.cell 2), (X7.cell 0), (X7.cell 1), (X7.cell 2)⟩) (fun hG => ?_)
                  have hHeld := hG.resolve_left (notGone.spec (by rfl))
                  clear hK K' hG
                  try simp only [List.setIfInBounds_toArray, List.set_cons_zero, List.set_cons_succ]
                  refine AnyW.nextT (i := 3) (v := ?_) hq hns (.inr hHeld) rfl rfl (by kernel_rfl) (Or.inl ⟨by rfl, ?_⟩) ?_
                  rotate_left
                  · intro w' _; go_simp <;> with_reducible rfl
                  try simp only [List.setIfInBounds_toArray, List.set_cons_zero, List.set_cons_succ]
                  refine AnyW.one 5 (by kernel_rfl) rfl (fun K' hK => ?_)
                  have hRC := X4.rc (n := 6)
                  refine step_st6 rfl (.tmp 4) (.tmp 83) rfl w.heap.size rfl _ _ _ _ _ _ rfl hRC rfl rfl rfl rfl rfl rfl ?_
                  have s6 := hRC.put6 (.bool x.s) (.slice Ar x.a.length cr) (.slice Dr x.b.length dr) (.bool true) (.slice (some ⟨w.heap.size + 1, 0, none⟩) 1 1) (.slice (some ⟨w.heap.size + 2, 0, none⟩) 1 1)
                  replace X7 := X7.wr6 (r := w.heap.size) (by omega) (.bool x.s) (.slice Ar x.a.length cr) (.slice Dr x.b.length dr) (.bool true) (.slice (some ⟨w.heap.size + 1, 0, none⟩) 1 1) (.slice (some ⟨w.heap.size + 2, 0, none⟩) 1 1)
                  replace X12 := X12.wr6 (r := w.heap.size) (by omega) (.bool x.s) (.slice Ar x.a.length cr) (.slice Dr x.b.length dr) (.bool true) (.slice (some ⟨w.heap.size + 1, 0, none⟩) 1 1) (.slice (some ⟨w.heap.size + 2, 0, none⟩) 1 1)
                  replace Oo1 := Oo1.put6 (b := w.heap.size) (by omega) (.bool x.s) (.slice Ar x.a.length cr) (.slice Dr x.b.length dr) (.bool true) (.slice (some ⟨w.heap.size + 1, 0, none⟩) 1 1) (.slice (some ⟨w.heap.size + 2, 0, none⟩) 1 1)
                  replace Oo2 := Oo2.put6 (b := w.heap.size) (by omega) (.bool x.s) (.slice Ar x.a.length cr) (.slice Dr x.b.length dr) (.bool true) (.slice (some ⟨w.heap.size + 1, 0, none⟩) 1 1) (.slice (some ⟨w.heap.size + 2, 0, none⟩) 1 1)
                  replace Ox1 := Ox1.put6 (b := w.heap.size) (by omega) (.bool x.s) (.slice Ar x.a.length cr) (.slice Dr x.b.length dr) (.bool true) (.slice (some ⟨w.heap.size + 1, 0, none⟩) 1 1) (.slice (some ⟨w.heap.size + 2, 0, none⟩) 1 1)
                  replace Ox2 := Ox2.put6 (b := w.heap.size) (by omega) (.bool x.s) (.slice Ar x.a.length cr) (.slice Dr x.b.length dr) (.bool true) (.slice (some ⟨w.heap.size + 1, 0, none⟩) 1 1) (.slice (some ⟨w.heap.size + 2, 0, none⟩) 1 1)
                  replace B := wr6_below (b := w.heap.size) B (Nat.le_refl _) (.bool x.s) (.slice Ar x.a.length cr) (.slice Dr x.b.length dr) (.bool true) (.slice (some ⟨w.heap.size + 1, 0, none⟩) 1 1) (.slice (some ⟨w.heap.size + 2, 0, none⟩) 1 1)
                  clear X4
                  refine hK.out _ _ (.inr ⟨(X12.cell 0), (X12.cell 1), (X12.cell 2), (X7.cell 0), (X7.cell 1), (X7.cell 2)⟩) (fun hG => ?_)
                  have hHeld := hG.resolve_left (notGone.spec (by rfl))
                  clear hK K' hG
                  try simp only [List.setIfInBounds_toArray, List.set_cons_zero, List.set_cons_succ]
                  refine AnyW.nextT (i := 6) (v := ?_) hq hns (.inr hHeld) rfl rfl (by kernel_rfl) (Or.inl ⟨by rfl, ?_⟩) ?_
                  rotate_left
                  · intro w' _; go_simp <;> with_reducible rfl
                  try simp only [List.setIfInBounds_toArray, List.set_cons_zero, List.set_cons_succ]
                  refine AnyW.nextT (i := 7) (v := ?_) hq hns (.inr hHeld) rfl rfl (by kernel_rfl) (Or.inl ⟨by rfl, ?_⟩) ?_
                  rotate_left
                  · intro w' _; go_simp <;> with_reducible rfl
                  try simp only [List.setIfInBounds_toArray, List.set_cons_zero, List.set_cons_succ]
                  refine AnyW.done (by kernel_rfl) (hQK.out _ _ ?_)
                  clear hQK hq hns hHeld
                  have r0' := s6.cell 0
                  have r1' := s6.cell 1
                  have r2' := s6.cell 2
                  have r3' := s6.cell 3
                  have r4' := s6.cell 4
                  have r5' := s6.cell 5
                  go_wp2_with fail
                  refine bodyPost_ret (v := .tuple #[.agg #[.bool x.s, .slice Ar x.a.length cr, .slice Dr x.b.length dr, .bool true, .slice (some ⟨w.heap.size + 1, 0, none⟩) 1 1, .slice (some ⟨w.heap.size + 2, 0, none⟩) 1 1], .int .i64 e, .bool true]) (by simp [results, r0', r1', r2', r3', r4', r5', go_sem]) rfl ?_
                  rw [HE.out]
                  exact ⟨Ar, cr, Dr, dr, (some ⟨w.heap.size + 1, 0, none⟩), 1, (some ⟨w.heap.size + 2, 0, none⟩), 1, rfl, Ox1.base_le (Nat.le_succ _), Ox2.base_le (Nat.le_succ _), Oo1.base_le (Nat.le_succ _), Oo2.base_le (Nat.le_succ _), B⟩
              · rw [Bool.eq_false_iff.2 hu3]
                replace hu3 := Lib.hid hu3
                go_wp2_with fail
                have hpz : k1 + 1 ≤ s.size := by have := HSL.out; omega
                have hq := rpiece_any s (k1 + 1) r neg2 w12 hs hpz hr1 hr2
                rw [HZ.out] at hq
                cases hp4 : pieceR (isDr r) (rdr r) mkr zq (s.data.toList.drop (k1 + 1)) neg2 with
                | none =>
                  rw [hp4] at hq
                  refine hq.mono ?_; rintro e' w13 ⟨y, Ai, ci, Di, di, rfl, Oy1, Oy2, BX⟩
                  clear hq
                  have hbz : w.heap.size + 1 ≤ w12.heap.size := by have := X7.lt; omega
                  replace Oy1 := Oy1.base_le hbz
                  replace Oy2 := Oy2.base_le hbz
                  clear hbz
                  replace X4 := X4.nx BX
                  replace X7 := X7.nx BX
                  replace X12 := X12.nx BX
                  replace Oo1 := Oo1.below BX (Nat.le_refl _)
                  replace Oo2 := Oo2.below BX (Nat.le_refl _)
                  replace Ox1 := Ox1.below BX (Nat.le_refl _)
                  replace Ox2 := Ox2.below BX (Nat.le_refl _)
                  replace B := bt B BX
                  have Bc := bal w13 (.cells #[.bool y.s, .slice Ai y.a.length ci, .slice Di y.b.length di] 24)
                  clear BX
                  replace X4 := X4.nx Bc
                  replace B := bt B Bc
                  clear Bc Oy1 Oy2
                  have HE := Lib.hid (bd_7 (isD := isDr r) (rd := rdr r) (mk := mkr) (zz := zq) hx1.out (fun h => hu1.out h.2) hp1 hs2.out (fun h => hu2.out h.2) hx3.out hu3.out hp4)
                  have hRC := X4.rc (n := 6)
                  have s6 := hRC.put6 (.bool false) (.slice none 0 0) (.slice none 0 0) (.bool false) (.slice none 0 0) (.slice none 0 0)
                  have B6 := wr6_below (b := w.heap.size) B (Nat.le_refl _) (.bool false) (.slice none 0 0) (.slice none 0 0) (.bool false) (.slice none 0 0) (.slice none 0 0)
                  go_wp2_with (refine wp_st6 rfl (.tmp 4) (.tmp 107) rfl _ rfl _ _ _ _ _ _ rfl hRC rfl rfl rfl rfl rfl rfl ?_)
                  have r0' := s6.cell 0
                  have r1' := s6.cell 1
                  have r2' := s6.cell 2
                  have r3' := s6.cell 3
                  have r4' := s6.cell 4
                  have r5' := s6.cell 5
                  refine bodyPost_ret (v := .tuple #[.agg #[.bool false, .slice none 0 0, .slice none 0 0, .bool false, .slice none 0 0, .slice none 0 0], .int .i64 0, .bool false]) (by simp [results, r0', r1', r2', r3', r4', r5', go_sem]) rfl ?_
                  rw [HE.out]
                  exact ⟨rfl, B6⟩
                | some q =>
                  obtain ⟨s4, y, f⟩ := q
                  rw [hp4] at hq
                  refine hq.mono ?_; rintro e' w13 ⟨k4, Ai, ci, Di, di, rfl, hk4, hd4, Oy1, Oy2, BX⟩
                  clear hq
                  have hbz : w.heap.size + 1 ≤ w12.heap.size := by have := X7.lt; omega
                  replace Oy1 := Oy1.base_le hbz
                  replace Oy2 := Oy2.base_le hbz
                  clear hbz
                  replace X4 := X4.nx BX
                  replace X7 := X7.nx BX
                  replace X12 := X12.nx BX
                  replace Oo1 := Oo1.below BX (Nat.le_refl _)
                  replace Oo2 := Oo2.below BX (Nat.le_refl _)
                  replace Ox1 := Ox1.below BX (Nat.le_refl _)
                  replace Ox2 := Ox2.below BX (Nat.le_refl _)
                  replace B := bt B BX
                  clear BX
                  have hx7_ := X7.lt
                  have Bc := bal w13 (.cells #[.bool y.s, .slice Ai y.a.length ci, .slice Di y.b.length di] 24)
                  have X15 := SB.new w13 [.bool y.s, .slice Ai y.a.length ci, .slice Di y.b.length di] 24
                  replace X4 := X4.nx Bc
                  replace X7 := X7.nx Bc
                  replace X12 := X12.nx Bc
                  replace Oo1 := Oo1.below Bc (Nat.le_refl _)
                  replace Oo2 := Oo2.below Bc (Nat.le_refl _)
                  replace Ox1 := Ox1.below Bc (Nat.le_refl _)
                  replace Ox2 := Ox2.below Bc (Nat.le_refl _)
                  replace Oy1 := Oy1.below Bc (Nat.le_refl _)
                  replace Oy2 := Oy2.below Bc (Nat.le_refl _)
                  replace B := bt B Bc
                  clear Bc
                  obtain ⟨g15, hg15⟩ : ∃ g15, w13.heap.size = g15 := ⟨_, rfl⟩
                  have hg15b : w.heap.size + 3 < g15 := by rw [← hg15]; exact hx7_
                  obtain ⟨w15, hw15⟩ : ∃ w15, w15 = w13.alloc (.cells #[.bool y.s, .slice Ai y.a.length ci, .slice Di y.b.length di] 24) := ⟨_, rfl⟩
                  rw [← hw15] at X4 X7 X12 X15 Oo1 Oo2 Ox1 Ox2 Oy1 Oy2 B
                  have tn4 : decide ((k4 : Int) < 0) = false := decide_eq_false (by omega)
                  go_wp2_with fail
                  rw [← hw15]
                  rw [hg15] at X15
                  clear hw15 hg15 hx7_
                  have hn := rends_any s k4 w15 hs
                  rw [hd4] at hn
                  refine hn.mono ?_; rintro e' w9 ⟨rfl, rfl⟩
                  clear hn
                  by_cases hu4 : unitB s4 = true
                  · rw [hu4]
                    go_wp2_with fail
                    have HE := Lib.hid (bd_8 (isD := isDr r) (rd := rdr r) (mk := mkr) (zz := zq) hx1.out (fun h => hu1.out h.2) hp1 hs2.out (fun h => hu2.out h.2) hx3.out hu3.out hp4 hu4)
                    replace X4 := X4.dr
                    replace X7 := X7.dr
                    replace X12 := X12.dr
                    replace X15 := X15.dr
                    replace Oo1 := Oo1.dr
                    replace Oo2 := Oo2.dr
                    replace Ox1 := Ox1.dr
                    replace Ox2 := Ox2.dr
                    replace Oy1 := Oy1.dr
                    replace Oy2 := Oy2.dr
                    replace B : Below w.heap.size w w15.drew := bdN B 1
                    refine AnyW.regionQ (fun _ => false) 9 (fun w' => w'.cell? ⟨g12, 0, none⟩ = some (.bool x.s) ∧ w'.cell? ⟨g12, 1, none⟩ = some (.slice Ar x.a.length cr) ∧ w'.cell? ⟨g12, 2, none⟩ = some (.slice Dr x.b.length dr) ∧ w'.cell? ⟨g15, 0, none⟩ = some (.bool y.s) ∧ w'.cell? ⟨g15, 1, none⟩ = some (.slice Ai y.a.length ci) ∧ w'.cell? ⟨g15, 2, none⟩ = some (.slice Di y.b.length di)) rfl (by kernel_rfl) (by kernel_rfl) (by (repeat (with_reducible (first | refine quiet_then ?_ | refine quiet_block ?_))); exact quiet_body) ⟨(X12.cell 0), (X12.cell 1), (X12.cell 2), (X15.cell 0), (X15.cell 1), (X15.cell 2)⟩ (fun Q' hQK hq hns hHeld => ?_)
                    generalize w15.drew = wd at *
                    refine AnyW.next (i := 0) (v := ?_) hq hns hHeld rfl rfl (by kernel_rfl) (Or.inl ⟨by rfl, ?_⟩) ?_
                    rotate_left
                    · intro w' hSw; (try dsimp only at hSw); go_simp <;> with_reducible rfl
                    try simp only [List.setIfInBounds_toArray, List.set_cons_zero, List.set_cons_succ]
                    refine AnyW.next (i := 1) (v := ?_) hq hns hHeld rfl rfl (by kernel_rfl) (Or.inl ⟨by rfl, ?_⟩) ?_
                    rotate_left
                    · intro w' hSw; (try dsimp only at hSw); go_simp <;> with_reducible rfl
                    try simp only [List.setIfInBounds_toArray, List.set_cons_zero, List.set_cons_succ]
                    refine AnyW.nextT (i := 2) (v := ?_) hq hns (.inr hHeld) rfl rfl (by kernel_rfl) (Or.inl ⟨by rfl, ?_⟩) ?_
                    rotate_left
                    · intro w' _; go_simp <;> with_reducible rfl
                    try simp only [List.setIfInBounds_toArray, List.set_cons_zero, List.set_cons_succ]
                    refine AnyW.nextT (i := 3) (v := ?_) hq hns (.inr hHeld) rfl rfl (by kernel_rfl) (Or.inl ⟨by rfl, ?_⟩) ?_
                    rotate_left
                    · intro w' _; go_simp <;> with_reducible rfl
                    try simp only [List.setIfInBounds_toArray, List.set_cons_zero, List.set_cons_succ]
                    refine AnyW.nextT (i := 4) (v := ?_) hq hns (.inr hHeld) rfl rfl (by kernel_rfl) (Or.inl ⟨by rfl, ?_⟩) ?_
                    rotate_left
                    · intro w' _; go_simp <;> with_reducible rfl
                    try simp only [List.setIfInBounds_toArray, List.set_cons_zero, List.set_cons_succ]
                    refine AnyW.one 5 (by kernel_rfl) rfl (fun K' hK => ?_)
                    go_simp
                    have hq := rworse_any e f wd
                    refine hq.mono ?_; rintro e' w9 ⟨rfl, rfl⟩
                    clear hq
                    go_wp2_with fail
                    refine hK.out _ _ (.inr ⟨(X12.cell 0), (X12.cell 1), (X12.cell 2), (X15.cell 0), (X15.cell 1), (X15.cell 2)⟩) (fun hG => ?_)
                    have hHeld := hG.resolve_left (notGone.spec (by rfl))
                    clear hK K' hG
                    try simp only [List.setIfInBounds_toArray, List.set_cons_zero, List.set_cons_succ]
                    refine AnyW.one 6 (by kernel_rfl) rfl (fun K' hK => ?_)
                    have hRC := X4.rc (n := 6)
                    refine step_st6 rfl (.tmp 4) (.tmp 110) rfl w.heap.size rfl _ _ _ _ _ _ rfl hRC rfl rfl rfl rfl rfl rfl ?_
                    have s6 := hRC.put6 (.bool x.s) (.slice Ar x.a.length cr) (.slice Dr x.b.length dr) (.bool y.s) (.slice Ai y.a.length ci) (.slice Di y.b.length di)
                    replace X7 := X7.wr6 (r := w.heap.size) (by omega) (.bool x.s) (.slice Ar x.a.length cr) (.slice Dr x.b.length dr) (.bool y.s) (.slice Ai y.a.length ci) (.slice Di y.b.length di)
                    replace X12 := X12.wr6 (r := w.heap.size) (by omega) (.bool x.s) (.slice Ar x.a.length cr) (.slice Dr x.b.length dr) (.bool y.s) (.slice Ai y.a.length ci) (.slice Di y.b.length di)
                    replace X15 := X15.wr6 (r := w.heap.size) (by omega) (.bool x.s) (.slice Ar x.a.length cr) (.slice Dr x.b.length dr) (.bool y.s) (.slice Ai y.a.length ci) (.slice Di y.b.length di)
                    replace Oo1 := Oo1.put6 (b := w.heap.size) (by omega) (.bool x.s) (.slice Ar x.a.length cr) (.slice Dr x.b.length dr) (.bool y.s) (.slice Ai y.a.length ci) (.slice Di y.b.length di)
                    replace Oo2 := Oo2.put6 (b := w.heap.size) (by omega) (.bool x.s) (.slice Ar x.a.length cr) (.slice Dr x.b.length dr) (.bool y.s) (.slice Ai y.a.length ci) (.slice Di y.b.length di)
                    replace Ox1 := Ox1.put6 (b := w.heap.size) (by omega) (.bool x.s) (.slice Ar x.a.length cr) (.slice Dr x.b.length dr) (.bool y.s) (.slice Ai y.a.length ci) (.slice Di y.b.length di)
                    replace Ox2 := Ox2.put6 (b := w.heap.size) (by omega) (.bool x.s) (.slice Ar x.a.length cr) (.slice Dr x.b.length dr) (.bool y.s) (.slice Ai y.a.length ci) (.slice Di y.b.length di)
                    replace Oy1 := Oy1.put6 (b := w.heap.size) (by omega) (.bool x.s) (.slice Ar x.a.length cr) (.slice Dr x.b.length dr) (.bool y.s) (.slice Ai y.a.length ci) (.slice Di y.b.length di)
                    replace Oy2 := Oy2.put6 (b := w.heap.size) (by omega) (.bool x.s) (.slice Ar x.a.length cr) (.slice Dr x.b.length dr) (.bool y.s) (.slice Ai y.a.length ci) (.slice Di y.b.length di)
                    replace B := wr6_below (b := w.heap.size) B (Nat.le_refl _) (.bool x.s) (.slice Ar x.a.length cr) (.slice Dr x.b.length dr) (.bool y.s) (.slice Ai y.a.length ci) (.slice Di y.b.length di)
                    clear X4
                    refine hK.out _ _ (.inr ⟨(X12.cell 0), (X12.cell 1), (X12.cell 2), (X15.cell 0), (X15.cell 1), (X15.cell 2)⟩) (fun hG => ?_)
                    have hHeld := hG.resolve_left (notGone.spec (by rfl))
                    clear hK K' hG
                    try simp only [List.setIfInBounds_toArray, List.set_cons_zero, List.set_cons_succ]
                    refine AnyW.nextT (i := 7) (v := ?_) hq hns (.inr hHeld) rfl rfl (by kernel_rfl) (Or.inl ⟨by rfl, ?_⟩) ?_
                    rotate_left
                    · intro w' _; go_simp <;> with_reducible rfl
                    try simp only [List.setIfInBounds_toArray, List.set_cons_zero, List.set_cons_succ]
                    refine AnyW.nextT (i := 8) (v := ?_) hq hns (.inr hHeld) rfl rfl (by kernel_rfl) (Or.inl ⟨by rfl, ?_⟩) ?_
                    rotate_left
                    · intro w' _; go_simp <;> with_reducible rfl
                    try simp only [List.setIfInBounds_toArray, List.set_cons_zero, List.set_cons_succ]
                    refine AnyW.done (by kernel_rfl) (hQK.out _ _ ?_)
                    clear hQK hq hns hHeld
                    have r0' := s6.cell 0
                    have r1' := s6.cell 1
                    have r2' := s6.cell 2
                    have r3' := s6.cell 3
                    have r4' := s6.cell 4
                    have r5' := s6.cell 5
                    go_wp2_with fail
                    refine bodyPost_ret (v := .tuple #[.agg #[.bool x.s, .slice Ar x.a.length cr, .slice Dr x.b.length dr, .bool y.s, .slice Ai y.a.length ci, .slice Di y.b.length di], .int .i64 (worseE e f), .bool true]) (by simp [results, r0', r1', r2', r3', r4', r5', go_sem]) rfl ?_
                    rw [HE.out]
                    exact ⟨Ar, cr, Dr, dr, Ai, ci, Di, di, rfl, Ox1.base_le (Nat.le_succ _), Ox2.base_le (Nat.le_succ _), Oy1.base_le (Nat.le_succ _), Oy2.base_le (Nat.le_succ _), B⟩
                  · rw [Bool.eq_false_iff.2 hu4]
                    have HE := Lib.hid (bd_9 (isD := isDr r) (rd := rdr r) (mk := mkr) (zz := zq) hx1.out (fun h => hu1.out h.2) hp1 hs2.out (fun h => hu2.out h.2) hx3.out hu3.out hp4 hu4)
                    have hRC := X4.rc (n := 6)
                    have s6 := hRC.put6 (.bool false) (.slice none 0 0) (.slice none 0 0) (.bool false) (.slice none 0 0) (.slice none 0 0)
                    have B6 := wr6_below (b := w.heap.size) B (Nat.le_refl _) (.bool false) (.slice none 0 0) (.slice none 0 0) (.bool false) (.slice none 0 0) (.slice none 0 0)
                    go_wp2_with (refine wp_st6 rfl (.tmp 4) (.tmp 107) rfl _ rfl _ _ _ _ _ _ rfl hRC rfl rfl rfl rfl rfl rfl ?_)
                    have r0' := s6.cell 0
                    have r1' := s6.cell 1
                    have r2' := s6.cell 2
                    have r3' := s6.cell 3
                    have r4' := s6.cell 4
                    have r5' := s6.cell 5
                    refine bodyPost_ret (v := .tuple #[.agg #[.bool false, .slice none 0 0, .slice none 0 0, .bool false, .slice none 0 0, .slice none 0 0], .int .i64 0, .bool false]) (by simp [results, r0', r1', r2', r3', r4', r5', go_sem]) rfl ?_
                    rw [HE.out]
                    exact ⟨rfl, B6⟩
            · rw [hx3] at hn
              refine hn.mono ?_; rintro e' w9 ⟨rfl, rfl⟩
              clear hn
              have HE := Lib.hid (bd_5 (isD := isDr r) (rd := rdr r) (mk := mkr) (zz := zq) hx1.out (fun h => hu1.out h.2) hp1 hs2.out (fun h => hu2.out h.2) (by rw [hx3]))
              have hRC := X4.rc (n := 6)
              have s6 := hRC.put6 (.bool false) (.slice none 0 0) (.slice none 0 0) (.bool false) (.slice none 0 0) (.slice none 0 0)
              have B6 := wr6_below (b := w.heap.size) B (Nat.le_refl _) (.bool false) (.slice none 0 0) (.slice none 0 0) (.bool false) (.slice none 0 0) (.slice none 0 0)
              go_wp2_with (refine wp_st6 rfl (.tmp 4) (.tmp 70) rfl _ rfl _ _ _ _ _ _ rfl hRC rfl rfl rfl rfl rfl rfl ?_)
              have r0' := s6.cell 0
              have r1' := s6.cell 1
              have r2' := s6.cell 2
              have r3' := s6.cell 3
              have r4' := s6.cell 4
              have r5' := s6.cell 5
              refine bodyPost_ret (v := .tuple #[.agg #[.bool false, .slice none 0 0, .slice none 0 0, .bool false, .slice none 0 0, .slice none 0 0], .int .i64 0, .bool false]) (by simp [results, r0', r1', r2', r3', r4', r5', go_sem]) rfl ?_
              rw [HE.out]
              exact ⟨rfl, B6⟩
  · rw [hx1] at hn
    replace hx1 := Lib.hid hx1
    refine hn.mono ?_; rintro e' w9 ⟨rfl, rfl⟩
    clear hn
    go_wp2_with fail
    have hpz : 0 ≤ s.size := by have := HSL.out; omega
    have hq := rpiece_any s (0) r false W0 hs hpz hr1 hr2
    rw [HZ.out] at hq
    rw [List.drop_zero] at hq
    cases hp1 : pieceR (isDr r) (rdr r) mkr zq (s.data.toList) false with
    | none =>
      rw [hp1] at hq
      refine hq.mono ?_; rintro e' w10 ⟨x, Ar, cr, Dr, dr, rfl, Ox1, Ox2, BX⟩
      clear hq
      have hbz : w.heap.size + 1 ≤ W0.heap.size := by have := X7.lt; omega
      replace Ox1 := Ox1.base_le hbz
      replace Ox2 := Ox2.base_le hbz
      clear hbz
      replace X4 := X4.nx BX
      replace X7 := X7.nx BX
      replace Oo1 := Oo1.below BX (Nat.le_refl _)
      replace Oo2 := Oo2.below BX (Nat.le_refl _)
      replace B := bt B BX
      have Bc := bal w10 (.cells #[.bool x.s, .slice Ar x.a.length cr, .slice Dr x.b.length dr] 24)
      clear BX
      replace X4 := X4.nx Bc
      replace B := bt B Bc
      clear Bc Ox1 Ox2
      have HE := Lib.hid (bd_2 (isD := isDr r) (rd := rdr r) (mk := mkr) (zz := zq) hx1.out (by simp) hp1)
      have hRC := X4.rc (n := 6)
      have s6 := hRC.put6 (.bool false) (.slice none 0 0) (.slice none 0 0) (.bool false) (.slice none 0 0) (.slice none 0 0)
      have B6 := wr6_below (b := w.heap.size) B (Nat.le_refl _) (.bool false) (.slice none 0 0) (.slice none 0 0) (.bool false) (.slice none 0 0) (.slice none 0 0)
      go_wp2_with (refine wp_st6 rfl (.tmp 4) (.tmp 47) rfl _ rfl _ _ _ _ _ _ rfl hRC rfl rfl rfl rfl rfl rfl ?_)
      have r0' := s6.cell 0
      have r1' := s6.cell 1
      have r2' := s6.cell 2
      have r3' := s6.cell 3
      have r4' := s6.cell 4
      have r5' := s6.cell 5
      refine bodyPost_ret (v := .tuple #[.agg #[.bool false, .slice none 0 0, .slice none 0 0, .bool false, .slice none 0 0, .slice none 0 0], .int .i64 0, .bool false]) (by simp [results, r0', r1', r2', r3', r4', r5', go_sem]) rfl ?_
      rw [HE.out]
      exact ⟨rfl, B6⟩
    | some q =>
      obtain ⟨s2, x, e⟩ := q
      rw [hp1] at hq
      refine hq.mono ?_; rintro e' w10 ⟨k1, Ar, cr, Dr, dr, rfl, hk1, hd1, Ox1, Ox2, BX⟩
      clear hq
      have hbz : w.heap.size + 1 ≤ W0.heap.size := by have := X7.lt; omega
      replace Ox1 := Ox1.base_le hbz
      replace Ox2 := Ox2.base_le hbz
      clear hbz
      replace X4 := X4.nx BX
      replace X7 := X7.nx BX
      replace Oo1 := Oo1.below BX (Nat.le_refl _)
      replace Oo2 := Oo2.below BX (Nat.le_refl _)
      replace B := bt B BX
      clear BX
      have hx7_ := X7.lt
      have Bc := bal w10 (.cells #[.bool x.s, .slice Ar x.a.length cr, .slice Dr x.b.length dr] 24)
      have X12 := SB.new w10 [.bool x.s, .slice Ar x.a.length cr, .slice Dr x.b.length dr] 24
      replace X4 := X4.nx Bc
      replace X7 := X7.nx Bc
      replace Oo1 := Oo1.below Bc (Nat.le_refl _)
      replace Oo2 := Oo2.below Bc (Nat.le_refl _)
      replace Ox1 := Ox1.below Bc (Nat.le_refl _)
      replace Ox2 := Ox2.below Bc (Nat.le_refl _)
      replace B := bt B Bc
      clear Bc
      obtain ⟨g12, hg12⟩ : ∃ g12, w10.heap.size = g12 := ⟨_, rfl⟩
      have hg12b : w.heap.size + 3 < g12 := by rw [← hg12]; exact hx7_
      obtain ⟨w12, hw12⟩ : ∃ w12, w12 = w10.alloc (.cells #[.bool x.s, .slice Ar x.a.length cr, .slice Dr x.b.length dr] 24) := ⟨_, rfl⟩
      rw [← hw12] at X4 X7 X12 Oo1 Oo2 Ox1 Ox2 B
      go_upto_region 13 with fail
      rw [← hw12]
      rw [hg12] at X12
      clear hw12 hg12 hx7_
      by_cases he : k1 = s.size
      · have hs2 : s2 = [] := by rw [← hd1]; exact List.drop_eq_nil_of_le (by rw [HSL.out]; omega)
        have te : ((k1 : Int) == (s.size : Int)) = true := beq_iff_eq.2 (by omega)
        have tn : decide ((k1 : Int) < 0) = false := decide_eq_false (by omega)
        clear he
        go_wp2_with fail
        have HE := Lib.hid (bd_3 (isD := isDr r) (rd := rdr r) (mk := mkr) (zz := zq) hx1.out (by simp) hp1 hs2)
        replace X4 := X4.dr
        replace X7 := X7.dr
        replace X12 := X12.dr
        replace Oo1 := Oo1.dr
        replace Oo2 := Oo2.dr
        replace Ox1 := Ox1.dr
        replace Ox2 := Ox2.dr
        replace B : Below w.heap.size w w12.drew := bdN B 1
        refine AnyW.regionQ (fun _ => false) 7 (fun w' => w'.cell? ⟨g12, 0, none⟩ = some (.bool x.s) ∧ w'.cell? ⟨g12, 1, none⟩ = some (.slice Ar x.a.length cr) ∧ w'.cell? ⟨g12, 2, none⟩ = some (.slice Dr x.b.length dr)) rfl (by kernel_rfl) (by kernel_rfl) (by (repeat (with_reducible (first | refine quiet_then ?_ | refine quiet_block ?_))); exact quiet_body) ⟨(X12.cell 0), (X12.cell 1), (X12.cell 2)⟩ (fun Q' hQK hq hns hHeld => ?_)
        generalize w12.drew = wd at *
        refine AnyW.next (i := 0) (v := ?_) hq hns hHeld rfl rfl (by kernel_rfl) (Or.inl ⟨by rfl, ?_⟩) ?_
        rotate_left
        · intro w' hSw; (try dsimp only at hSw); go_simp <;> with_reducible rfl
        try simp only [List.setIfInBounds_toArray, List.set_cons_zero, List.set_cons_succ]
        refine AnyW.nextT (i := 3) (v := ?_) hq hns (.inr hHeld) rfl rfl (by kernel_rfl) (Or.inl ⟨by rfl, ?_⟩) ?_
        rotate_left
        · intro w' _; go_simp <;> with_reducible rfl
        try simp only [List.setIfInBounds_toArray, List.set_cons_zero, List.set_cons_succ]
        refine AnyW.one 1 (by kernel_rfl) rfl (fun K' hK => ?_)
        go_simp
        have hz := rzero_rw wd
        rw [HZ.out] at hz
        refine hz.mono ?_; rintro e' wz ⟨Az, cz, Dz, dz, rfl, Oz1, Oz2, BX⟩
        clear hz
        have hbz : w.heap.size + 1 ≤ wd.heap.size := by have := X7.lt; omega
        replace Oz1 := Oz1.base_le hbz
        replace Oz2 := Oz2.base_le hbz
        clear hbz
        go_wp2_with fail
        replace X4 := X4.nx BX
        replace X7 := X7.nx BX
        replace X12 := X12.nx BX
        replace Oo1 := Oo1.below BX (Nat.le_refl _)
        replace Oo2 := Oo2.below BX (Nat.le_refl _)
        replace Ox1 := Ox1.below BX (Nat.le_refl _)
        replace Ox2 := Ox2.below BX (Nat.le_refl _)
        replace B := bt B BX
        clear BX
        refine hK.out _ _ (.inr ⟨(X12.cell 0), (X12.cell 1), (X12.cell 2)⟩) (fun hG => ?_)
        have hHeld := hG.resolve_left (notGone.spec (by rfl))
        clear hK K' hG
        try simp only [List.setIfInBounds_toArray, List.set_cons_zero, List.set_cons_succ]
        refine AnyW.nextT (i := 2) (v := ?_) hq hns (.inr hHeld) rfl rfl (by kernel_rfl) (Or.inl ⟨by rfl, ?_⟩) ?_
        rotate_left
        · intro w' _; go_simp <;> with_reducible rfl
        try simp only [List.setIfInBounds_toArray, List.set_cons_zero, List.set_cons_succ]
        refine AnyW.one 4 (by kernel_rfl) rfl (fun K' hK => ?_)
        have hRC := X4.rc (n := 6)
        refine step_st6 rfl (.tmp 4) (.tmp 54) rfl w.heap.size rfl _ _ _ _ _ _ rfl hRC rfl rfl rfl rfl rfl rfl ?_
        have s6 := hRC.put6 (.bool x.s) (.slice Ar x.a.length cr) (.slice Dr x.b.length dr) (.bool zq.s) (.slice Az zq.a.length cz) (.slice Dz zq.b.length dz)
        replace X7 := X7.wr6 (r := w.heap.size) (by omega) (.bool x.s) (.slice Ar x.a.length cr) (.slice Dr x.b.length dr) (.bool zq.s) (.slice Az zq.a.length cz) (.slice Dz zq.b.length dz)
        replace X12 := X12.wr6 (r := w.heap.size) (by omega) (.bool x.s) (.slice Ar x.a.length cr) (.slice Dr x.b.length dr) (.bool zq.s) (.slice Az zq.a.length cz) (.slice Dz zq.b.length dz)
        replace Oo1 := Oo1.put6 (b := w.heap.size) (by omega) (.bool x.s) (.slice Ar x.a.length cr) (.slice Dr x.b.length dr) (.bool zq.s) (.slice Az zq.a.length cz) (.slice Dz zq.b.length dz)
        replace Oo2 := Oo2.put6 (b := w.heap.size) (by omega) (.bool x.s) (.slice Ar x.a.length cr) (.slice Dr x.b.length dr) (.bool zq.s) (.slice Az zq.a.length cz) (.slice Dz zq.b.length dz)
        replace Ox1 := Ox1.put6 (b := w.heap.size) (by omega) (.bool x.s) (.slice Ar x.a.length cr) (.slice Dr x.b.length dr) (.bool zq.s) (.slice Az zq.a.length cz) (.slice Dz zq.b.length dz)
        replace Ox2 := Ox2.put6 (b := w.heap.size) (by omega) (.bool x.s) (.slice Ar x.a.length cr) (.slice Dr x.b.length dr) (.bool zq.s) (.slice Az zq.a.length cz) (.slice Dz zq.b.length dz)
        replace Oz1 := Oz1.put6 (b := w.heap.size) (by omega) (.bool x.s) (.slice Ar x.a.length cr) (.slice Dr x.b.length dr) (.bool zq.s) (.slice Az zq.a.length cz) (.slice Dz zq.b.length dz)
        replace Oz2 := Oz2.put6 (b := w.heap.size) (by omega) (.bool x.s) (.slice Ar x.a.length cr) (.slice Dr x.b.length dr) (.bool zq.s) (.slice Az zq.a.length cz) (.slice Dz zq.b.length dz)
        replace B := wr6_below (b := w.heap.size) B (Nat.le_refl _) (.bool x.s) (.slice Ar x.a.length cr) (.slice Dr x.b.length dr) (.bool zq.s) (.slice Az zq.a.length cz) (.slice Dz zq.b.length dz)
        clear X4
        refine hK.out _ _ (.inr ⟨(X12.cell 0), (X12.cell 1), (X12.cell 2)⟩) (fun hG => ?_)
        have hHeld := hG.resolve_left (notGone.spec (by rfl))
        clear hK K' hG
        try simp only [List.setIfInBounds_toArray, List.set_cons_zero, List.set_cons_succ]
        refine AnyW.nextT (i := 5) (v := ?_) hq hns (.inr hHeld) rfl rfl (by kernel_rfl) (Or.inl ⟨by rfl, ?_⟩) ?_
        rotate_left
        · intro w' _; go_simp <;> with_reducible rfl
        try simp only [List.setIfInBounds_toArray, List.set_cons_zero, List.set_cons_succ]
        refine AnyW.nextT (i := 6) (v := ?_) hq hns (.inr hHeld) rfl rfl (by kernel_rfl) (Or.inl ⟨by rfl, ?_⟩) ?_
        rotate_left
        · intro w' _; go_simp <;> with_reducible rfl
        try simp only [List.setIfInBounds_toArray, List.set_cons_zero, List.set_cons_succ]
        refine AnyW.done (by kernel_rfl) (hQK.out _ _ ?_)
        clear hQK hq hns hHeld
        have r0' := s6.cell 0
        have r1' := s6.cell 1
        have r2' := s6.cell 2
        have r3' := s6.cell 3
        have r4' := s6.cell 4
        have r5' := s6.cell 5
        go_wp2_with fail
        refine bodyPost_ret (v := .tuple #[.agg #[.bool x.s, .slice Ar x.a.length cr, .slice Dr x.b.length dr, .bool zq.s, .slice Az zq.a.length cz, .slice Dz zq.b.length dz], .int .i64 e, .bool true]) (by simp [results, r0', r1', r2', r3', r4', r5', go_sem]) rfl ?_
        rw [HE.out]
        exact ⟨Ar, cr, Dr, dr, Az, cz, Dz, dz, rfl, Ox1.base_le (Nat.le_succ _), Ox2.base_le (Nat.le_succ _), Oz1.base_le (Nat.le_succ _), Oz2.base_le (Nat.le_succ _), B⟩
      · have hs2 := Lib.hid (show ¬ s2 = [] by rw [← hd1]; intro h; have := congrArg List.length h; rw [List.length_drop, HSL.out, List.length_nil] at this; have h3 := HSL.out; omega)
        have te : ((k1 : Int) == (s.size : Int)) = false := beq_eq_false_iff_ne.2 (by omega)
        have tn : decide ((k1 : Int) < 0) = false := decide_eq_false (by omega)
        have hkl : k1 < s.size := by have h3 := HSL.out; omega
        clear he
        go_wp2_with fail
        clear te tn
        have hn := rsigned_any s k1 w12
        rw [hd1] at hn
        have hss := sgn_split (l := s.data.toList) (k := k1)
        rw [hd1] at hss
        rcases hss with ⟨neg2, hkl2, hx3, tneg⟩ | hx3
        · have e1 := s_at hkl
          have hwr : IntKind.i64.wrap ((k1 : Int) + 1) = ((k1 + 1 : Nat) : Int) := (IntWalk.i64_in _ (by have h3 := HSL.out; omega)).trans (by omega)
          rw [hx3] at hn
          have hn2 := rends_any s (k1 + 1) w12 hs
          have k1p : (0 : Int) ≤ (k1 : Int) := by omega
          have k1s : (k1 : Int) < (s.size : Int) := by omega
          replace hx3 := Lib.hid hx3
          refine hn.mono ?_; rintro e' w9 ⟨rfl, rfl⟩
          clear hn
          go_wp2_with fail
          refine hn2.mono ?_; rintro e' w9 ⟨rfl, rfl⟩
          clear hn2 e1 tneg k1s
          by_cases hu3 : unitB (s.data.toList.drop (k1 + 1)) = true
          · rw [hu3]
            cases neg2
            · have HE := (bd_6 (isD := isDr r) (rd := rdr r) (mk := mkr) (zz := zq) hx1.out (by simp) hp1 hs2.out (by simp) hx3.out hu3)
              rw [one_rw] at HE
              replace HE := Lib.hid HE
              have hRC := X4.rc (n := 6)
              have a0 := X12.cell 0
              have a1 := X12.cell 1
              have a2 := X12.cell 2
              have b0 := X7.cell 0
              have b1 := X7.cell 1
              have b2 := X7.cell 2
              go_wp2_with (refine wp_st6 rfl (.tmp 4) (.tmp 87) rfl _ rfl _ _ _ _ _ _ rfl hRC rfl rfl rfl rfl rfl rfl ?_)
              clear a0 a1 a2 b0 b1 b2
              have s6 := hRC.put6 (.bool x.s) (.slice Ar x.a.length cr) (.slice Dr x.b.length dr) (.bool false) (.slice (some ⟨w.heap.size + 1, 0, none⟩) 1 1) (.slice (some ⟨w.heap.size + 2, 0, none⟩) 1 1)
              replace X7 := X7.wr6 (r := w.heap.size) (by omega) (.bool x.s) (.slice Ar x.a.length cr) (.slice Dr x.b.length dr) (.bool false) (.slice (some ⟨w.heap.size + 1, 0, none⟩) 1 1) (.slice (some ⟨w.heap.size + 2, 0, none⟩) 1 1)
              replace X12 := X12.wr6 (r := w.heap.size) (by omega) (.bool x.s) (.slice Ar x.a.length cr) (.slice Dr x.b.length dr) (.bool false) (.slice (some ⟨w.heap.size + 1, 0, none⟩) 1 1) (.slice (some ⟨w.heap.size + 2, 0, none⟩) 1 1)
              replace Oo1 := Oo1.put6 (b := w.heap.size) (by omega) (.bool x.s) (.slice Ar x.a.length cr) (.slice Dr x.b.length dr) (.bool false) (.slice (some ⟨w.heap.size + 1, 0, none⟩) 1 1) (.slice (some ⟨w.heap.size + 2, 0, none⟩) 1 1)
              replace Oo2 := Oo2.put6 (b := w.heap.size) (by omega) (.bool x.s) (.slice Ar x.a.length cr) (.slice Dr x.b.length dr) (.bool false) (.slice (some ⟨w.heap.size + 1, 0, none⟩) 1 1) (.slice (some ⟨w.heap.size + 2, 0, none⟩) 1 1)
              replace Ox1 := Ox1.put6 (b := w.heap.size) (by omega) (.bool x.s) (.slice Ar x.a.length cr) (.slice Dr x.b.length dr) (.bool false) (.slice (some ⟨w.heap.size + 1, 0, none⟩) 1 1) (.slice (some ⟨w.heap.size + 2, 0, none⟩) 1 1)
              replace Ox2 := Ox2.put6 (b := w.heap.size) (by omega) (.bool x.s) (.slice Ar x.a.length cr) (.slice Dr x.b.length dr) (.bool false) (.slice (some ⟨w.heap.size + 1, 0, none⟩) 1 1) (.slice (some ⟨w.heap.size + 2, 0, none⟩) 1 1)
              replace B := wr6_below (b := w.heap.size) B (Nat.le_refl _) (.bool x.s) (.slice Ar x.a.length cr) (.slice Dr x.b.length dr) (.bool false) (.slice (some ⟨w.heap.size + 1, 0, none⟩) 1 1) (.slice (some ⟨w.heap.size + 2, 0, none⟩) 1 1)
              clear X4
              have r0' := s6.cell 0
              have r1' := s6.cell 1
              have r2' := s6.cell 2
              have r3' := s6.cell 3
              have r4' := s6.cell 4
              have r5' := s6.cell 5
              refine bodyPost_ret (v := .tuple #[.agg #[.bool x.s, .slice Ar x.a.length cr, .slice Dr x.b.length dr, .bool false, .slice (some ⟨w.heap.size + 1, 0, none⟩) 1 1, .slice (some ⟨w.heap.size + 2, 0, none⟩) 1 1], .int .i64 e, .bool true]) (by simp [results, r0', r1', r2', r3', r4', r5', go_sem]) rfl ?_
              rw [HE.out]
              exact ⟨Ar, cr, Dr, dr, (some ⟨w.heap.size + 1, 0, none⟩), 1, (some ⟨w.heap.size + 2, 0, none⟩), 1, rfl, Ox1.base_le (Nat.le_succ _), Ox2.base_le (Nat.le_succ _), Oo1.base_le (Nat.le_succ _), Oo2.base_le (Nat.le_succ _), B⟩
            · go_wp2_with fail
              have HE := (bd_6 (isD := isDr r) (rd := rdr r) (mk := mkr) (zz := zq) hx1.out (by simp) hp1 hs2.out (by simp) hx3.out hu3)
              rw [one_rw] at HE
              replace HE := Lib.hid HE
              replace X4 := X4.dr
              replace X7 := X7.dr
              replace X12 := X12.dr
              replace Oo1 := Oo1.dr
              replace Oo2 := Oo2.dr
              replace Ox1 := Ox1.dr
              replace Ox2 := Ox2.dr
              replace B : Below w.heap.size w w12.drew := bdN B 1
              refine AnyW.regionQ (fun _ => false) 8 (fun w' => w'.cell? ⟨g12, 0, none⟩ = some (.bool x.s) ∧ w'.cell? ⟨g12, 1, none⟩ = some (.slice Ar x.a.length cr) ∧ w'.cell? ⟨g12, 2, none⟩ = some (.slice Dr x.b.length dr) ∧ w'.cell? ⟨(w.heap.size + 3), 0, none⟩ = some (.bool false) ∧ w'.cell? ⟨(w.heap.size + 3), 1, none⟩ = some (.slice (some ⟨w.heap.size + 1, 0, none⟩) 1 1) ∧ w'.cell? ⟨(w.heap.size + 3), 2, none⟩ = some (.slice (some ⟨w.heap.size + 2, 0, none⟩) 1 1)) rfl (by kernel_rfl) (by kernel_rfl) (by (repeat (with_reducible (first | refine quiet_then ?_ | refine quiet_block ?_))); exact quiet_body) ⟨(X12.cell 0), (X12.cell 1), (X12.cell 2), (X7.cell 0), (X7.cell 1), (X7.cell 2)⟩ (fun Q' hQK hq hns hHeld => ?_)
              generalize w12.drew = wd at *
              refine AnyW.next (i := 0) (v := ?_) hq hns hHeld rfl rfl (by kernel_rfl) (Or.inl ⟨by rfl, ?_⟩) ?_
              rotate_left
              · intro w' hSw; (try dsimp only at hSw); go_simp <;> with_reducible rfl
              try simp only [List.setIfInBounds_toArray, List.set_cons_zero, List.set_cons_succ]
              refine AnyW.next (i := 1) (v := ?_) hq hns hHeld rfl rfl (by kernel_rfl) (Or.inl ⟨by rfl, ?_⟩) ?_
              rotate_left
              · intro w' hSw; (try dsimp only at hSw); go_simp <;> with_reducible rfl
              try simp only [List.setIfInBounds_toArray, List.set_cons_zero, List.set_cons_succ]
              refine AnyW.nextT (i := 4) (v := ?_) hq hns (.inr hHeld) rfl rfl (by kernel_rfl) (Or.inl ⟨by rfl, ?_⟩) ?_
              rotate_left
              · intro w' _; go_simp <;> with_reducible rfl
              try simp only [List.setIfInBounds_toArray, List.set_cons_zero, List.set_cons_succ]
              refine AnyW.one 2 (by kernel_rfl) rfl (fun K' hK => ?_)
              go_simp
              have hm := rminus_raw false (some ⟨w.heap.size + 1, 0, none⟩) (some ⟨w.heap.size + 2, 0, none⟩) 1 1 1 1 wd
              rw [show (!false && decide (0 < 1)) = true from rfl] at hm
              refine hm.mono ?_; rintro e' wm ⟨rfl, BX⟩
              clear hm
              go_wp2_with fail
              replace X4 := X4.nx BX
              replace X7 := X7.nx BX
              replace X12 := X12.nx BX
              replace Oo1 := Oo1.below BX (Nat.le_refl _)
              replace Oo2 := Oo2.below BX (Nat.le_refl _)
              replace Ox1 := Ox1.below BX (Nat.le_refl _)
              replace Ox2 := Ox2.below BX (Nat.le_refl _)
              replace B := bt B BX
              clear BX
              refine hK.out _ _ (.inr ⟨(X12.cell 0), (X12.cell 1), (X12.cell 2), (X7.cell 0), (X7.cell 1), (X7.cell 2)⟩) (fun hG => ?_)
              have hHeld := hG.resolve_left (notGone.spec (by rfl))
              clear hK K' hG
              try simp only [List.setIfInBounds_toArray, List.set_cons_zero, List.set_cons_succ]
              refine AnyW.nextT (i := 3) (v := ?_) hq hns (.inr hHeld) rfl rfl (by kernel_rfl) (Or.inl ⟨by rfl, ?_⟩) ?_
              rotate_left
              · intro w' _; go_simp <;> with_reducible rfl
              try simp only [List.setIfInBounds_toArray, List.set_cons_zero, List.set_cons_succ]
              refine AnyW.one 5 (by kernel_rfl) rfl (fun K' hK => ?_)
              have hRC := X4.rc (n := 6)
              refine step_st6 rfl (.tmp 4) (.tmp 83) rfl w.heap.size rfl _ _ _ _ _ _ rfl hRC rfl rfl rfl rfl rfl rfl ?_
              have s6 := hRC.put6 (.bool x.s) (.slice Ar x.a.length cr) (.slice Dr x.b.length dr) (.bool true) (.slice (some ⟨w.heap.size + 1, 0, none⟩) 1 1) (.slice (some ⟨w.heap.size + 2, 0, none⟩) 1 1)
              replace X7 := X7.wr6 (r := w.heap.size) (by omega) (.bool x.s) (.slice Ar x.a.length cr) (.slice Dr x.b.length dr) (.bool true) (.slice (some ⟨w.heap.size + 1, 0, none⟩) 1 1) (.slice (some ⟨w.heap.size + 2, 0, none⟩) 1 1)
              replace X12 := X12.wr6 (r := w.heap.size) (by omega) (.bool x.s) (.slice Ar x.a.length cr) (.slice Dr x.b.length dr) (.bool true) (.slice (some ⟨w.heap.size + 1, 0, none⟩) 1 1) (.slice (some ⟨w.heap.size + 2, 0, none⟩) 1 1)
              replace Oo1 := Oo1.put6 (b := w.heap.size) (by omega) (.bool x.s) (.slice Ar x.a.length cr) (.slice Dr x.b.length dr) (.bool true) (.slice (some ⟨w.heap.size + 1, 0, none⟩) 1 1) (.slice (some ⟨w.heap.size + 2, 0, none⟩) 1 1)
              replace Oo2 := Oo2.put6 (b := w.heap.size) (by omega) (.bool x.s) (.slice Ar x.a.length cr) (.slice Dr x.b.length dr) (.bool true) (.slice (some ⟨w.heap.size + 1, 0, none⟩) 1 1) (.slice (some ⟨w.heap.size + 2, 0, none⟩) 1 1)
              replace Ox1 := Ox1.put6 (b := w.heap.size) (by omega) (.bool x.s) (.slice Ar x.a.length cr) (.slice Dr x.b.length dr) (.bool true) (.slice (some ⟨w.heap.size + 1, 0, none⟩) 1 1) (.slice (some ⟨w.heap.size + 2, 0, none⟩) 1 1)
              replace Ox2 := Ox2.put6 (b := w.heap.size) (by omega) (.bool x.s) (.slice Ar x.a.length cr) (.slice Dr x.b.length dr) (.bool true) (.slice (some ⟨w.heap.size + 1, 0, none⟩) 1 1) (.slice (some ⟨w.heap.size + 2, 0, none⟩) 1 1)
              replace B := wr6_below (b := w.heap.size) B (Nat.le_refl _) (.bool x.s) (.slice Ar x.a.length cr) (.slice Dr x.b.length dr) (.bool true) (.slice (some ⟨w.heap.size + 1, 0, none⟩) 1 1) (.slice (some ⟨w.heap.size + 2, 0, none⟩) 1 1)
              clear X4
              refine hK.out _ _ (.inr ⟨(X12.cell 0), (X12.cell 1), (X12.cell 2), (X7.cell 0), (X7.cell 1), (X7.cell 2)⟩) (fun hG => ?_)
              have hHeld := hG.resolve_left (notGone.spec (by rfl))
              clear hK K' hG
              try simp only [List.setIfInBounds_toArray, List.set_cons_zero, List.set_cons_succ]
              refine AnyW.nextT (i := 6) (v := ?_) hq hns (.inr hHeld) rfl rfl (by kernel_rfl) (Or.inl ⟨by rfl, ?_⟩) ?_
              rotate_left
              · intro w' _; go_simp <;> with_reducible rfl
              try simp only [List.setIfInBounds_toArray, List.set_cons_zero, List.set_cons_succ]
              refine AnyW.nextT (i := 7) (v := ?_) hq hns (.inr hHeld) rfl rfl (by kernel_rfl) (Or.inl ⟨by rfl, ?_⟩) ?_
              rotate_left
              · intro w' _; go_simp <;> with_reducible rfl
              try simp only [List.setIfInBounds_toArray, List.set_cons_zero, List.set_cons_succ]
              refine AnyW.done (by kernel_rfl) (hQK.out _ _ ?_)
              clear hQK hq hns hHeld
              have r0' := s6.cell 0
              have r1' := s6.cell 1
              have r2' := s6.cell 2
              have r3' := s6.cell 3
              have r4' := s6.cell 4
              have r5' := s6.cell 5
              go_wp2_with fail
              refine bodyPost_ret (v := .tuple #[.agg #[.bool x.s, .slice Ar x.a.length cr, .slice Dr x.b.length dr, .bool true, .slice (some ⟨w.heap.size + 1, 0, none⟩) 1 1, .slice (some ⟨w.heap.size + 2, 0, none⟩) 1 1], .int .i64 e, .bool true]) (by simp [results, r0', r1', r2', r3', r4', r5', go_sem]) rfl ?_
              rw [HE.out]
              exact ⟨Ar, cr, Dr, dr, (some ⟨w.heap.size + 1, 0, none⟩), 1, (some ⟨w.heap.size + 2, 0, none⟩), 1, rfl, Ox1.base_le (Nat.le_succ _), Ox2.base_le (Nat.le_succ _), Oo1.base_le (Nat.le_succ _), Oo2.base_le (Nat.le_succ _), B⟩
          · rw [Bool.eq_false_iff.2 hu3]
            replace hu3 := Lib.hid hu3
            go_wp2_with fail
            have hpz : k1 + 1 ≤ s.size := by have := HSL.out; omega
            have hq := rpiece_any s (k1 + 1) r neg2 w12 hs hpz hr1 hr2
            rw [HZ.out] at hq
            cases hp4 : pieceR (isDr r) (rdr r) mkr zq (s.data.toList.drop (k1 + 1)) neg2 with
            | none =>
              rw [hp4] at hq
              refine hq.mono ?_; rintro e' w13 ⟨y, Ai, ci, Di, di, rfl, Oy1, Oy2, BX⟩
              clear hq
              have hbz : w.heap.size + 1 ≤ w12.heap.size := by have := X7.lt; omega
              replace Oy1 := Oy1.base_le hbz
              replace Oy2 := Oy2.base_le hbz
              clear hbz
              replace X4 := X4.nx BX
              replace X7 := X7.nx BX
              replace X12 := X12.nx BX
              replace Oo1 := Oo1.below BX (Nat.le_refl _)
              replace Oo2 := Oo2.below BX (Nat.le_refl _)
              replace Ox1 := Ox1.below BX (Nat.le_refl _)
              replace Ox2 := Ox2.below BX (Nat.le_refl _)
              replace B := bt B BX
              have Bc := bal w13 (.cells #[.bool y.s, .slice Ai y.a.length ci, .slice Di y.b.length di] 24)
              clear BX
              replace X4 := X4.nx Bc
              replace B := bt B Bc
              clear Bc Oy1 Oy2
              have HE := Lib.hid (bd_7 (isD := isDr r) (rd := rdr r) (mk := mkr) (zz := zq) hx1.out (by simp) hp1 hs2.out (by simp) hx3.out hu3.out hp4)
              have hRC := X4.rc (n := 6)
              have s6 := hRC.put6 (.bool false) (.slice none 0 0) (.slice none 0 0) (.bool false) (.slice none 0 0) (.slice none 0 0)
              have B6 := wr6_below (b := w.heap.size) B (Nat.le_refl _) (.bool false) (.slice none 0 0) (.slice none 0 0) (.bool false) (.slice none 0 0) (.slice none 0 0)
              go_wp2_with (refine wp_st6 rfl (.tmp 4) (.tmp 107) rfl _ rfl _ _ _ _ _ _ rfl hRC rfl rfl rfl rfl rfl rfl ?_)
              have r0' := s6.cell 0
              have r1' := s6.cell 1
              have r2' := s6.cell 2
              have r3' := s6.cell 3
              have r4' := s6.cell 4
              have r5' := s6.cell 5
              refine bodyPost_ret (v := .tuple #[.agg #[.bool false, .slice none 0 0, .slice none 0 0, .bool false, .slice none 0 0, .slice none 0 0], .int .i64 0, .bool false]) (by simp [results, r0', r1', r2', r3', r4', r5', go_sem]) rfl ?_
              rw [HE.out]
              exact ⟨rfl, B6⟩
            | some q =>
              obtain ⟨s4, y, f⟩ := q
              rw [hp4] at hq
              refine hq.mono ?_; rintro e' w13 ⟨k4, Ai, ci, Di, di, rfl, hk4, hd4, Oy1, Oy2, BX⟩
              clear hq
              have hbz : w.heap.size + 1 ≤ w12.heap.size := by have := X7.lt; omega
              replace Oy1 := Oy1.base_le hbz
              replace Oy2 := Oy2.base_le hbz
              clear hbz
              replace X4 := X4.nx BX
              replace X7 := X7.nx BX
              replace X12 := X12.nx BX
              replace Oo1 := Oo1.below BX (Nat.le_refl _)
              replace Oo2 := Oo2.below BX (Nat.le_refl _)
              replace Ox1 := Ox1.below BX (Nat.le_refl _)
              replace Ox2 := Ox2.below BX (Nat.le_refl _)
              replace B := bt B BX
              clear BX
              have hx7_ := X7.lt
              have Bc := bal w13 (.cells #[.bool y.s, .slice Ai y.a.length ci, .slice Di y.b.length di] 24)
              have X15 := SB.new w13 [.bool y.s, .slice Ai y.a.length ci, .slice Di y.b.length di] 24
              replace X4 := X4.nx Bc
              replace X7 := X7.nx Bc
              replace X12 := X12.nx Bc
              replace Oo1 := Oo1.below Bc (Nat.le_refl _)
              replace Oo2 := Oo2.below Bc (Nat.le_refl _)
              replace Ox1 := Ox1.below Bc (Nat.le_refl _)
              replace Ox2 := Ox2.below Bc (Nat.le_refl _)
              replace Oy1 := Oy1.below Bc (Nat.le_refl _)
              replace Oy2 := Oy2.below Bc (Nat.le_refl _)
              replace B := bt B Bc
              clear Bc
              obtain ⟨g15, hg15⟩ : ∃ g15, w13.heap.size = g15 := ⟨_, rfl⟩
              have hg15b : w.heap.size + 3 < g15 := by rw [← hg15]; exact hx7_
              obtain ⟨w15, hw15⟩ : ∃ w15, w15 = w13.alloc (.cells #[.bool y.s, .slice Ai y.a.length ci, .slice Di y.b.length di] 24) := ⟨_, rfl⟩
              rw [← hw15] at X4 X7 X12 X15 Oo1 Oo2 Ox1 Ox2 Oy1 Oy2 B
              have tn4 : decide ((k4 : Int) < 0) = false := decide_eq_false (by omega)
              go_wp2_with fail
              rw [← hw15]
              rw [hg15] at X15
              clear hw15 hg15 hx7_
              have hn := rends_any s k4 w15 hs
              rw [hd4] at hn
              refine hn.mono ?_; rintro e' w9 ⟨rfl, rfl⟩
              clear hn
              by_cases hu4 : unitB s4 = true
              · rw [hu4]
                go_wp2_with fail
                have HE := Lib.hid (bd_8 (isD := isDr r) (rd := rdr r) (mk := mkr) (zz := zq) hx1.out (by simp) hp1 hs2.out (by simp) hx3.out hu3.out hp4 hu4)
                replace X4 := X4.dr
                replace X7 := X7.dr
                replace X12 := X12.dr
                replace X15 := X15.dr
                replace Oo1 := Oo1.dr
                replace Oo2 := Oo2.dr
                replace Ox1 := Ox1.dr
                replace Ox2 := Ox2.dr
                replace Oy1 := Oy1.dr
                replace Oy2 := Oy2.dr
                replace B : Below w.heap.size w w15.drew := bdN B 1
                refine AnyW.regionQ (fun _ => false) 9 (fun w' => w'.cell? ⟨g12, 0, none⟩ = some (.bool x.s) ∧ w'.cell? ⟨g12, 1, none⟩ = some (.slice Ar x.a.length cr) ∧ w'.cell? ⟨g12, 2, none⟩ = some (.slice Dr x.b.length dr) ∧ w'.cell? ⟨g15, 0, none⟩ = some (.bool y.s) ∧ w'.cell? ⟨g15, 1, none⟩ = some (.slice Ai y.a.length ci) ∧ w'.cell? ⟨g15, 2, none⟩ = some (.slice Di y.b.length di)) rfl (by kernel_rfl) (by kernel_rfl) (by (repeat (with_reducible (first | refine quiet_then ?_ | refine quiet_block ?_))); exact quiet_body) ⟨(X12.cell 0), (X12.cell 1), (X12.cell 2), (X15.cell 0), (X15.cell 1), (X15.cell 2)⟩ (fun Q' hQK hq hns hHeld => ?_)
                generalize w15.drew = wd at *
                refine AnyW.next (i := 0) (v := ?_) hq hns hHeld rfl rfl (by kernel_rfl) (Or.inl ⟨by rfl, ?_⟩) ?_
                rotate_left
                · intro w' hSw; (try dsimp only at hSw); go_simp <;> with_reducible rfl
                try simp only [List.setIfInBounds_toArray, List.set_cons_zero, List.set_cons_succ]
                refine AnyW.next (i := 1) (v := ?_) hq hns hHeld rfl rfl (by kernel_rfl) (Or.inl ⟨by rfl, ?_⟩) ?_
                rotate_left
                · intro w' hSw; (try dsimp only at hSw); go_simp <;> with_reducible rfl
                try simp only [List.setIfInBounds_toArray, List.set_cons_zero, List.set_cons_succ]
                refine AnyW.nextT (i := 2) (v := ?_) hq hns (.inr hHeld) rfl rfl (by kernel_rfl) (Or.inl ⟨by rfl, ?_⟩) ?_
                rotate_left
                · intro w' _; go_simp <;> with_reducible rfl
                try simp only [List.setIfInBounds_toArray, List.set_cons_zero, List.set_cons_succ]
                refine AnyW.nextT (i := 3) (v := ?_) hq hns (.inr hHeld) rfl rfl (by kernel_rfl) (Or.inl ⟨by rfl, ?_⟩) ?_
                rotate_left
                · intro w' _; go_simp <;> with_reducible rfl
                try simp only [List.setIfInBounds_toArray, List.set_cons_zero, List.set_cons_succ]
                refine AnyW.nextT (i := 4) (v := ?_) hq hns (.inr hHeld) rfl rfl (by kernel_rfl) (Or.inl ⟨by rfl, ?_⟩) ?_
                rotate_left
                · intro w' _; go_simp <;> with_reducible rfl
                try simp only [List.setIfInBounds_toArray, List.set_cons_zero, List.set_cons_succ]
                refine AnyW.one 5 (by kernel_rfl) rfl (fun K' hK => ?_)
                go_simp
                have hq := rworse_any e f wd
                refine hq.mono ?_; rintro e' w9 ⟨rfl, rfl⟩
                clear hq
                go_wp2_with fail
                refine hK.out _ _ (.inr ⟨(X12.cell 0), (X12.cell 1), (X12.cell 2), (X15.cell 0), (X15.cell 1), (X15.cell 2)⟩) (fun hG => ?_)
                have hHeld := hG.resolve_left (notGone.spec (by rfl))
                clear hK K' hG
                try simp only [List.setIfInBounds_toArray, List.set_cons_zero, List.set_cons_succ]
                refine AnyW.one 6 (by kernel_rfl) rfl (fun K' hK => ?_)
                have hRC := X4.rc (n := 6)
                refine step_st6 rfl (.tmp 4) (.tmp 110) rfl w.heap.size rfl _ _ _ _ _ _ rfl hRC rfl rfl rfl rfl rfl rfl ?_
                have s6 := hRC.put6 (.bool x.s) (.slice Ar x.a.length cr) (.slice Dr x.b.length dr) (.bool y.s) (.slice Ai y.a.length ci) (.slice Di y.b.length di)
                replace X7 := X7.wr6 (r := w.heap.size) (by omega) (.bool x.s) (.slice Ar x.a.length cr) (.slice Dr x.b.length dr) (.bool y.s) (.slice Ai y.a.length ci) (.slice Di y.b.length di)
                replace X12 := X12.wr6 (r := w.heap.size) (by omega) (.bool x.s) (.slice Ar x.a.length cr) (.slice Dr x.b.length dr) (.bool y.s) (.slice Ai y.a.length ci) (.slice Di y.b.length di)
                replace X15 := X15.wr6 (r := w.heap.size) (by omega) (.bool x.s) (.slice Ar x.a.length cr) (.slice Dr x.b.length dr) (.bool y.s) (.slice Ai y.a.length ci) (.slice Di y.b.length di)
                replace Oo1 := Oo1.put6 (b := w.heap.size) (by omega) (.bool x.s) (.slice Ar x.a.length cr) (.slice Dr x.b.length dr) (.bool y.s) (.slice Ai y.a.length ci) (.slice Di y.b.length di)
                replace Oo2 := Oo2.put6 (b := w.heap.size) (by omega) (.bool x.s) (.slice Ar x.a.length cr) (.slice Dr x.b.length dr) (.bool y.s) (.slice Ai y.a.length ci) (.slice Di y.b.length di)
                replace Ox1 := Ox1.put6 (b := w.heap.size) (by omega) (.bool x.s) (.slice Ar x.a.length cr) (.slice Dr x.b.length dr) (.bool y.s) (.slice Ai y.a.length ci) (.slice Di y.b.length di)
                replace Ox2 := Ox2.put6 (b := w.heap.size) (by omega) (.bool x.s) (.slice Ar x.a.length cr) (.slice Dr x.b.length dr) (.bool y.s) (.slice Ai y.a.length ci) (.slice Di y.b.length di)
                replace Oy1 := Oy1.put6 (b := w.heap.size) (by omega) (.bool x.s) (.slice Ar x.a.length cr) (.slice Dr x.b.length dr) (.bool y.s) (.slice Ai y.a.length ci) (.slice Di y.b.length di)
                replace Oy2 := Oy2.put6 (b := w.heap.size) (by omega) (.bool x.s) (.slice Ar x.a.length cr) (.slice Dr x.b.length dr) (.bool y.s) (.slice Ai y.a.length ci) (.slice Di y.b.length di)
                replace B := wr6_below (b := w.heap.size) B (Nat.le_refl _) (.bool x.s) (.slice Ar x.a.length cr) (.slice Dr x.b.length dr) (.bool y.s) (.slice Ai y.a.length ci) (.slice Di y.b.length di)
                clear X4
                refine hK.out _ _ (.inr ⟨(X12.cell 0), (X12.cell 1), (X12.cell 2), (X15.cell 0), (X15.cell 1), (X15.cell 2)⟩) (fun hG => ?_)
                have hHeld := hG.resolve_left (notGone.spec (by rfl))
                clear hK K' hG
                try simp only [List.setIfInBounds_toArray, List.set_cons_zero, List.set_cons_succ]
                refine AnyW.nextT (i := 7) (v := ?_) hq hns (.inr hHeld) rfl rfl (by kernel_rfl) (Or.inl ⟨by rfl, ?_⟩) ?_
                rotate_left
                · intro w' _; go_simp <;> with_reducible rfl
                try simp only [List.setIfInBounds_toArray, List.set_cons_zero, List.set_cons_succ]
                refine AnyW.nextT (i := 8) (v := ?_) hq hns (.inr hHeld) rfl rfl (by kernel_rfl) (Or.inl ⟨by rfl, ?_⟩) ?_
                rotate_left
                · intro w' _; go_simp <;> with_reducible rfl
                try simp only [List.setIfInBounds_toArray, List.set_cons_zero, List.set_cons_succ]
                refine AnyW.done (by kernel_rfl) (hQK.out _ _ ?_)
                clear hQK hq hns hHeld
                have r0' := s6.cell 0
                have r1' := s6.cell 1
                have r2' := s6.cell 2
                have r3' := s6.cell 3
                have r4' := s6.cell 4
                have r5' := s6.cell 5
                go_wp2_with fail
                refine bodyPost_ret (v := .tuple #[.agg #[.bool x.s, .slice Ar x.a.length cr, .slice Dr x.b.length dr, .bool y.s, .slice Ai y.a.length ci, .slice Di y.b.length di], .int .i64 (worseE e f), .bool true]) (by simp [results, r0', r1', r2', r3', r4', r5', go_sem]) rfl ?_
                rw [HE.out]
                exact ⟨Ar, cr, Dr, dr, Ai, ci, Di, di, rfl, Ox1.base_le (Nat.le_succ _), Ox2.base_le (Nat.le_succ _), Oy1.base_le (Nat.le_succ _), Oy2.base_le (Nat.le_succ _), B⟩
              · rw [Bool.eq_false_iff.2 hu4]
                have HE := Lib.hid (bd_9 (isD := isDr r) (rd := rdr r) (mk := mkr) (zz := zq) hx1.out (by simp) hp1 hs2.out (by simp) hx3.out hu3.out hp4 hu4)
                have hRC := X4.rc (n := 6)
                have s6 := hRC.put6 (.bool false) (.slice none 0 0) (.slice none 0 0) (.bool false) (.slice none 0 0) (.slice none 0 0)
                have B6 := wr6_below (b := w.heap.size) B (Nat.le_refl _) (.bool false) (.slice none 0 0) (.slice none 0 0) (.bool false) (.slice none 0 0) (.slice none 0 0)
                go_wp2_with (refine wp_st6 rfl (.tmp 4) (.tmp 107) rfl _ rfl _ _ _ _ _ _ rfl hRC rfl rfl rfl rfl rfl rfl ?_)
                have r0' := s6.cell 0
                have r1' := s6.cell 1
                have r2' := s6.cell 2
                have r3' := s6.cell 3
                have r4' := s6.cell 4
                have r5' := s6.cell 5
                refine bodyPost_ret (v := .tuple #[.agg #[.bool false, .slice none 0 0, .slice none 0 0, .bool false, .slice none 0 0, .slice none 0 0], .int .i64 0, .bool false]) (by simp [results, r0', r1', r2', r3', r4', r5', go_sem]) rfl ?_
                rw [HE.out]
                exact ⟨rfl, B6⟩
        · rw [hx3] at hn
          refine hn.mono ?_; rintro e' w9 ⟨rfl, rfl⟩
          clear hn
          have HE := Lib.hid (bd_5 (isD := isDr r) (rd := rdr r) (mk := mkr) (zz := zq) hx1.out (by simp) hp1 hs2.out (by simp) (by rw [hx3]))
          have hRC := X4.rc (n := 6)
          have s6 := hRC.put6 (.bool false) (.slice none 0 0) (.slice none 0 0) (.bool false) (.slice none 0 0) (.slice none 0 0)
          have B6 := wr6_below (b := w.heap.size) B (Nat.le_refl _) (.bool false) (.slice none 0 0) (.slice none 0 0) (.bool false) (.slice none 0 0) (.slice none 0 0)
          go_wp2_with (refine wp_st6 rfl (.tmp 4) (.tmp 70) rfl _ rfl _ _ _ _ _ _ rfl hRC rfl rfl rfl rfl rfl rfl ?_)
          have r0' := s6.cell 0
          have r1' := s6.cell 1
          have r2' := s6.cell 2
          have r3' := s6.cell 3
          have r4' := s6.cell 4
          have r5' := s6.cell 5
          refine bodyPost_ret (v := .tuple #[.agg #[.bool false, .slice none 0 0, .slice none 0 0, .bool false, .slice none 0 0, .slice none 0 0], .int .i64 0, .bool false]) (by simp [results, r0', r1', r2', r3', r4', r5', go_sem]) rfl ?_
          rw [HE.out]
          exact ⟨rfl, B6⟩
end Go.Proofs.Ytkjfpaommbjgbaa
