/- Walks: prefixes of exact's reader. -/
import Derived.Test.YtkjfpaommbjgbaaRdB
import Derived.Test.YtkjfpaommbjgbaaRdT
import Derived.Maps.Own
import Derived.Maps.OwnOps
namespace Go.Proofs.Ytkjfpaommbjgbaa
open Go.RowKit Go.Maps

theorem preF_stop {k : Nat} {told ex : Bool} {l : List UInt8} (h : ¬ l.head? = some 35) : preF k told ex l = some (k, l) := by
  match l with
  | [] => rfl
  | [a] => unfold preF; rw [if_neg (fun e => h (by rw [e]; rfl))]
  | a :: c :: t => unfold preF; rw [if_neg (fun e => h (by rw [e]; rfl))]
theorem preF_one {k : Nat} {told ex : Bool} : preF k told ex [35] = none := by unfold preF; rw [if_pos rfl]
theorem preF_e {k : Nat} {told : Bool} {c : UInt8} {t : List UInt8} (h : c ||| 32 = 101) : preF k told false (35 :: c :: t) = preF k told true t := by
  conv => lhs; unfold preF
  rw [if_pos rfl, if_pos ⟨(e_or c).1 h, rfl⟩]
theorem preF_r {k : Nat} {ex : Bool} {c : UInt8} {t : List UInt8} (h : ¬ (c ||| 32 = 101 ∧ ex = false)) (hr : radL c ≠ 0) : preF k false ex (35 :: c :: t) = preF (radL c) true ex t := by
  conv => lhs; unfold preF
  rw [if_pos rfl, if_neg (by rw [← e_or]; exact h), if_pos ⟨hr, rfl⟩]
theorem preF_no {k : Nat} {told ex : Bool} {c : UInt8} {t : List UInt8} (h : ¬ (c ||| 32 = 101 ∧ ex = false)) (hr : ¬ (radL c ≠ 0 ∧ told = false)) : preF k told ex (35 :: c :: t) = none := by
  conv => lhs; unfold preF
  rw [if_pos rfl, if_neg (by rw [← e_or]; exact h), if_neg hr]
theorem or32 (c : UInt8) : bits BinOp.or IntKind.u8 (c.toNat : Int) 32 = (((c ||| 32).toNat : Nat) : Int) := by
  have h : ∀ n : Fin 256, bits BinOp.or IntKind.u8 ((UInt8.ofNat n).toNat : Int) 32 = (((UInt8.ofNat n ||| 32).toNat : Nat) : Int) := by decide +kernel
  have := h ⟨c.toNat, c.toNat_lt⟩
  simpa using this
def radT (n : Nat) : Nat := if n = 98 then 2 else if n = 111 then 8 else if n = 100 then 10 else if n = 120 then 16 else 0
theorem radT_or (c : UInt8) : radT (c ||| 32).toNat = radL c := by
  have h : ∀ n : Fin 256, radT (UInt8.ofNat n ||| 32).toNat = radL (UInt8.ofNat n) := by decide +kernel
  have := h ⟨c.toNat, c.toNat_lt⟩
  simpa using this
/-- the map of letters, as it is filled -/
def dkl (n : Int) : Lit := .int .u8 n
def dvl (n : Int) : DataW Unit := .lit (.int .i64 n)
theorem dm4 : (((((DataW.map [] : DataW Unit).put (dkl 98) (dvl 2)).put (dkl 111) (dvl 8)).put (dkl 100) (dvl 10)).put (dkl 120) (dvl 16)) = .map [(dkl 98, dvl 2), (dkl 100, dvl 10), (dkl 111, dvl 8), (dkl 120, dvl 16)] := by rfl
theorem dm_at (n : Nat) : (DataW.map [(dkl 98, dvl 2), (dkl 100, dvl 10), (dkl 111, dvl 8), (dkl 120, dvl 16)]).atKey (.int .u8 (n : Int)) (.lit (.int .i64 0)) = .lit (.int .i64 (radT n : Nat)) := by
  unfold DataW.atKey radT
  by_cases h1 : n = 98
  · subst h1; rfl
  by_cases h2 : n = 111
  · subst h2; rfl
  by_cases h3 : n = 100
  · subst h3; rfl
  by_cases h4 : n = 120
  · subst h4; rfl
  have g1 : ¬ (98 : Int) = n := by omega
  have g2 : ¬ (111 : Int) = n := by omega
  have g3 : ¬ (100 : Int) = n := by omega
  have g4 : ¬ (120 : Int) = n := by omega
  simp [List.find?, dkl, Lit.sameKey, g1, g2, g3, g4, h1, h2, h3, h4]
theorem at_101 {cc : Int} (h : (((((DataW.map [] : DataW Unit).put (.int .u8 98) (.lit (.int .i64 2))).put (.int .u8 111) (.lit (.int .i64 8))).put (.int .u8 100) (.lit (.int .i64 10))).put (.int .u8 120) (.lit (.int .i64 16))).atKey (.int .u8 101) (.lit (.int .i64 0)) = .lit (.int .i64 cc)) : cc = 0 := by
  have h1 : (DataW.map [(dkl 98, dvl 2), (dkl 100, dvl 10), (dkl 111, dvl 8), (dkl 120, dvl 16)]).atKey (.int .u8 ((101 : Nat) : Int)) (.lit (.int .i64 0)) = .lit (.int .i64 cc) := by rw [← dm4]; exact h
  rw [dm_at] at h1
  injection h1 with h1
  injection h1 with _ h1
  exact h1.symm
theorem at_rad {c : UInt8} {m : Nat} {cc : Int} (hm : (c ||| 32).toNat = m) (h : (((((DataW.map [] : DataW Unit).put (.int .u8 98) (.lit (.int .i64 2))).put (.int .u8 111) (.lit (.int .i64 8))).put (.int .u8 100) (.lit (.int .i64 10))).put (.int .u8 120) (.lit (.int .i64 16))).atKey (.int .u8 (m : Int)) (.lit (.int .i64 0)) = .lit (.int .i64 cc)) : cc = (radL c : Int) := by
  have h1 : (DataW.map [(dkl 98, dvl 2), (dkl 100, dvl 10), (dkl 111, dvl 8), (dkl 120, dvl 16)]).atKey (.int .u8 (m : Int)) (.lit (.int .i64 0)) = .lit (.int .i64 cc) := by rw [← dm4]; exact h
  rw [dm_at, ← hm, radT_or] at h1
  injection h1 with h1
  injection h1 with _ h1
  exact h1.symm
theorem law8 : Keyed Try.prog 5 := int_keyed Try.underlying5
theorem zeroI (w : World) : (zeroValue 3).run Try.prog w = .ok (.int .i64 0) w := by kernel_rfl
theorem key8 (n : Nat) (h : n < 256) : keyOf Try.prog 5 (.int .u8 (n : Int)) = some (.int .u8 (n : Int)) := keyOf_int_mk Try.underlying5 (by simp [Lit.wf, show IntKind.u8.min = 0 from rfl, show IntKind.u8.max = 255 from rfl]; omega)
/-- a literal's insert into a map of the call's own -/
theorem wpList_insert_own {H : Type} {P : Program} (w : World) {ops : Array Oper} {rest : List Oper} {o : Oper} {a : Act} {Q : Exit → Act → World → Prop}
    (hg : o.guard = none) (m x v : Operand) (t : TypeId) (hop : o.op = Op.insert t m x v)
    (k e : TypeId) (K : Keyed P k) (ht : P.underlying t = some (.map k e)) (R : Value → Option (DataW H × List MemPlace)) (b n : Nat) (D : DataW H)
    (hm : a.eval m = .map (some b)) (hown : w.ownsMap P k R b n D) (hn : n < maxLen) (key val : Value) (kl : Lit) (hx : a.eval x = key) (hv : a.eval v = val) (hkey : keyOf P k key = some kl)
    (d : DataW H) (ps : List MemPlace) (hval : R val = some (d, ps))
    (hK : ∀ w', w'.ownsMap P k R b (n + 1) (D.put kl d) → w.grownBy w' (some b) → wpList P ops Q rest (a.put o.dst undef) w') :
    wpList P ops Q (o :: rest) a w := by
  refine wpList_plain hg fun K' hK' => ?_
  obtain ⟨w', hrun, r1, r2⟩ := hown.update K ht hn hkey hval
  unfold Oper.wp
  simp [execOp, hop, hm, hx, hv, hrun, Result.andThen]
  exact hK' _ _ (hK w' r1 r2)
/-- what prefixes gives, and leaves in the reader -/
def RetPr (w : World) (g : Nat) (x : Option (Nat × List UInt8)) (v : Value) (e : Ending) (w' : World) : Prop :=
  FarW g w w' ∧ (match x with
    | none => e = .returned (.bool false)
    | some (k, t) => e = .returned (.bool true) ∧ ∃ s', s'.data.toList = t ∧ SB w' g [.string s', .int .i64 (k : Int), v])


set_option maxRecDepth 100000 in
set_option maxHeartbeats 8000000 in
theorem prefixes_any (g : Nat) (s : ByteArray) (r : Nat) (v : Value) (w : World) (hs : s.size ≤ 140737488351232) (S : SB w g [.string s, .int .i64 (r : Int), v]) :
    Calls Try.prog 13 #[.pointer (some ⟨g, 0, none⟩)] w (RetPr w g (preF r false false s.data.toList) v) := by
  have hgw := S.lt
  have hmm := @run_makeMap Try.prog
  go_enter Try.func13, Try.ntmps13
  go_wp2_with fail
  go_loopg [3, 4] s.size (fun gk s3 s4 wx => ∃ (told ex : Bool) (s' : ByteArray) (k : Nat), s3 = .bool told ∧ s4 = .bool ex ∧ s'.size ≤ 140737488351232 ∧ gk = s'.size ∧ Hid (preF r false false s.data.toList = preF k told ex s'.data.toList) ∧ SB wx g [.string s', .int .i64 (k : Int), v] ∧ FarW g w wx)
  case atStart => exact ⟨false, false, s, r, rfl, rfl, hs, rfl, rfl, S, FarW.refl _ _⟩
  case round =>
    clear S hs
    obtain ⟨told, ex, s', k, rfl, rfl, hs, rfl, hp, S, F⟩ := hrel
    obtain ⟨wx, rfl⟩ : ∃ wx : World, wx = wr := ⟨_, rfl⟩
    have m0 := S.cell 0
    have f0 := S.frozen 0
    have f1 := S.frozen 1
    have hh := fun w => hasp_any s' 35 w
    by_cases c0 : s'.data.toList.head? = some 35
    · rw [decide_eq_true c0] at hh
      have hl := s_len s'
      by_cases c1 : s'.size < 2
      · have he : s'.data.toList = [35] := by
          cases hd : s'.data.toList with
          | nil => rw [hd] at c0; cases c0
          | cons a t =>
            rw [hd] at c0 hl
            cases t with
            | nil => simp at c0; exact congrArg (fun x => [x]) c0
            | cons b t => simp at hl; omega
        have d1 : (s'.size : Int) < 2 := by omega
        have HE := Lib.hid (hp.out.trans (show preF k told ex s'.data.toList = none by rw [he]; exact preF_one))
        clear hp he hl c0 c1
        go_wp2_with fail
        refine (hh _).mono ?_; rintro e w' ⟨rfl, rfl⟩
        clear hh
        go_wp2_with fail
        go_ret
        rw [HE.out]
        exact ⟨F, rfl⟩
      · have d1 : decide ((s'.size : Int) < 2) = false := decide_eq_false (by omega)
        have hp1 : 1 < s'.size := by omega
        have e1 := s_at hp1
        have hsd : (s'.extract 2 s'.size).data.toList = s'.data.toList.drop 2 := ext_drop s' 2
        have hl2 : (2 : Int) ≤ (s'.size : Int) := by omega
        obtain ⟨c, t, hct⟩ : ∃ c t, s'.data.toList = 35 :: c :: t := by
          cases hd : s'.data.toList with
          | nil => rw [hd] at c0; cases c0
          | cons a t =>
            rw [hd] at c0 hl
            cases t with
            | nil => simp at hl; omega
            | cons b t => simp at c0; rw [c0]; exact ⟨b, t, rfl⟩
        have hb : byt s'.data.toList 1 = c.toNat := by rw [hct]; rfl
        rw [hb] at e1
        rw [hct] at hp
        rw [hct, show (35 :: c :: t).drop 2 = t from rfl] at hsd
        clear hct hb hl c0 c1
        have hor := or32 c
        obtain ⟨m, hm⟩ : ∃ m, (c ||| 32).toNat = m := ⟨_, rfl⟩
        have hm8 : m < 256 := by rw [← hm]; exact UInt8.toNat_lt _
        rw [hm] at hor
        have HM := Lib.hid hm
        clear hm
        by_cases ce : c ||| 32 = 101 ∧ ex = false
        · obtain ⟨ce, rfl⟩ := ce
          have hce : (m : Int) = 101 := by have := HM.out; rw [ce] at this; rw [← this]; rfl
          have HE := Lib.hid (hp.out.trans (preF_e ce))
          clear hp ce
          have S2 := S.set 0 (.string (s'.extract 2 s'.size))
          have F2 := F.set 0 (.string (s'.extract 2 s'.size))
          go_wp2_with fail
          refine (hh _).mono ?_; rintro e w' ⟨rfl, rfl⟩
          clear hh
          go_wp2_with fail
          go_roundg (s'.extract 2 s'.size).size
          case measure => rw [ByteArray.size_extract]; omega
          case rel => exact ⟨told, true, s'.extract 2 s'.size, k, rfl, rfl, by rw [ByteArray.size_extract]; omega, rfl, by show _ = _; rw [hsd]; exact HE.out, S2, F2⟩
        · by_cases cy : c ||| 32 = 101
          · have hce : (m : Int) = 101 := by have := HM.out; rw [cy] at this; rw [← this]; rfl
            have hq : radL c = 0 := by rw [← radT_or, cy]; rfl
            have HE := Lib.hid (hp.out.trans (preF_no ce (by rw [hq]; simp)))
            cases ex
            · exact absurd ⟨cy, rfl⟩ ce
            · skip
              clear hp ce cy
              have hn0 := World.ownsMap_made wx Try.prog 5 (plainElem (H := Unit) Try.prog 3)
              go_wp2_with fail
              refine (hh _).mono ?_; rintro e w' ⟨rfl, rfl⟩
              clear hh
              go_wp2_with (first | (refine wpList_insert_own _ rfl _ _ _ 56 rfl 5 3 law8 Try.underlying56 _ wx.heap.size 0 _ rfl hn0 (by unfold maxLen; omega) _ _ _ rfl rfl (key8 98 (by omega)) _ [] (plainElem_int Try.underlying3 (WalkArith.wf_i64 (by omega))) ?_; intro wm0 hn1 hgw0; clear hn0) | (refine wpList_insert_own _ rfl _ _ _ 56 rfl 5 3 law8 Try.underlying56 _ wx.heap.size 1 _ rfl hn1 (by unfold maxLen; omega) _ _ _ rfl rfl (key8 111 (by omega)) _ [] (plainElem_int Try.underlying3 (WalkArith.wf_i64 (by omega))) ?_; intro wm1 hn2 hgw1; clear hn1) | (refine wpList_insert_own _ rfl _ _ _ 56 rfl 5 3 law8 Try.underlying56 _ wx.heap.size 2 _ rfl hn2 (by unfold maxLen; omega) _ _ _ rfl rfl (key8 100 (by omega)) _ [] (plainElem_int Try.underlying3 (WalkArith.wf_i64 (by omega))) ?_; intro wm2 hn3 hgw2; clear hn2) | (refine wpList_insert_own _ rfl _ _ _ 56 rfl 5 3 law8 Try.underlying56 _ wx.heap.size 3 _ rfl hn3 (by unfold maxLen; omega) _ _ _ rfl rfl (key8 120 (by omega)) _ [] (plainElem_int Try.underlying3 (WalkArith.wf_i64 (by omega))) ?_; intro wm3 hn4 hgw3; clear hn3) | (at_lookup; refine wpList_lookup_own_int _ rfl _ _ 56 rfl 5 3 .i64 law8 Try.underlying56 Try.underlying3 (zeroI _) wx.heap.size 4 _ rfl hn4 _ _ rfl (key8 101 (by omega)) ?_; intro cc hat hwc; clear hn4 hwc; have hb0 := bal wx (.map #[] 0); have hb1 := hb0.grown hgw0 hb0.size (fun j hj => by cases hj; exact Nat.le_refl _); have hb2 := hb1.grown hgw1 hb1.size (fun j hj => by cases hj; exact Nat.le_refl _); have hb3 := hb2.grown hgw2 hb2.size (fun j hj => by cases hj; exact Nat.le_refl _); have hb4 := hb3.grown hgw3 hb3.size (fun j hj => by cases hj; exact Nat.le_refl _); have Sm := S.nx hb4; have Fm := F.nx hb4 (Nat.le_of_lt S.lt); clear hb0 hb1 hb2 hb3 hb4 hgw0 hgw1 hgw2 hgw3; have q0 := Sm.cell 0; have qf0 := Sm.frozen 0; have q1 := Sm.cell 1; have qf1 := Sm.frozen 1; have hcc := at_101 hat; subst hcc; clear hat))
              go_ret
              rw [HE.out]
              exact ⟨Fm, rfl⟩
          · have tc : ((m : Int) == 101) = false := beq_eq_false_iff_ne.2 fun h => cy (UInt8.toNat.inj (by show _ = 101; have := HM.out; omega))
            clear cy
            by_cases hq : radL c = 0
            · have HE := Lib.hid (hp.out.trans (preF_no ce (by rw [hq]; simp)))
              clear hp ce
              have hn0 := World.ownsMap_made wx Try.prog 5 (plainElem (H := Unit) Try.prog 3)
              go_wp2_with fail
              refine (hh _).mono ?_; rintro e w' ⟨rfl, rfl⟩
              clear hh
              go_wp2_with (first | (refine wpList_insert_own _ rfl _ _ _ 56 rfl 5 3 law8 Try.underlying56 _ wx.heap.size 0 _ rfl hn0 (by unfold maxLen; omega) _ _ _ rfl rfl (key8 98 (by omega)) _ [] (plainElem_int Try.underlying3 (WalkArith.wf_i64 (by omega))) ?_; intro wm0 hn1 hgw0; clear hn0) | (refine wpList_insert_own _ rfl _ _ _ 56 rfl 5 3 law8 Try.underlying56 _ wx.heap.size 1 _ rfl hn1 (by unfold maxLen; omega) _ _ _ rfl rfl (key8 111 (by omega)) _ [] (plainElem_int Try.underlying3 (WalkArith.wf_i64 (by omega))) ?_; intro wm1 hn2 hgw1; clear hn1) | (refine wpList_insert_own _ rfl _ _ _ 56 rfl 5 3 law8 Try.underlying56 _ wx.heap.size 2 _ rfl hn2 (by unfold maxLen; omega) _ _ _ rfl rfl (key8 100 (by omega)) _ [] (plainElem_int Try.underlying3 (WalkArith.wf_i64 (by omega))) ?_; intro wm2 hn3 hgw2; clear hn2) | (refine wpList_insert_own _ rfl _ _ _ 56 rfl 5 3 law8 Try.underlying56 _ wx.heap.size 3 _ rfl hn3 (by unfold maxLen; omega) _ _ _ rfl rfl (key8 120 (by omega)) _ [] (plainElem_int Try.underlying3 (WalkArith.wf_i64 (by omega))) ?_; intro wm3 hn4 hgw3; clear hn3) | (at_lookup; refine wpList_lookup_own_int _ rfl _ _ 56 rfl 5 3 .i64 law8 Try.underlying56 Try.underlying3 (zeroI _) wx.heap.size 4 _ rfl hn4 _ _ rfl (key8 m hm8) ?_; intro cc hat hwc; clear hn4 hwc; have hb0 := bal wx (.map #[] 0); have hb1 := hb0.grown hgw0 hb0.size (fun j hj => by cases hj; exact Nat.le_refl _); have hb2 := hb1.grown hgw1 hb1.size (fun j hj => by cases hj; exact Nat.le_refl _); have hb3 := hb2.grown hgw2 hb2.size (fun j hj => by cases hj; exact Nat.le_refl _); have hb4 := hb3.grown hgw3 hb3.size (fun j hj => by cases hj; exact Nat.le_refl _); have Sm := S.nx hb4; have Fm := F.nx hb4 (Nat.le_of_lt S.lt); clear hb0 hb1 hb2 hb3 hb4 hgw0 hgw1 hgw2 hgw3; have q0 := Sm.cell 0; have qf0 := Sm.frozen 0; have q1 := Sm.cell 1; have qf1 := Sm.frozen 1; have hcc := at_rad HM.out hat; rw [hq] at hcc; rw [Int.natCast_zero] at hcc; subst hcc; clear hat))
              go_ret
              rw [HE.out]
              exact ⟨Fm, rfl⟩
            · obtain ⟨q, hqq⟩ : ∃ q, radL c = q := ⟨_, rfl⟩
              have hqp : (0 : Int) < (q : Int) := by rw [hqq] at hq; omega
              cases told
              · have HE := Lib.hid (hp.out.trans (preF_r ce hq))
                rw [hqq] at HE
                clear hq
                have hq := hqq
                clear hp ce hqq
                have hn0 := World.ownsMap_made wx Try.prog 5 (plainElem (H := Unit) Try.prog 3)
                go_wp2_with fail
                refine (hh _).mono ?_; rintro e w' ⟨rfl, rfl⟩
                clear hh
                go_wp2_with (first | (refine wpList_insert_own _ rfl _ _ _ 56 rfl 5 3 law8 Try.underlying56 _ wx.heap.size 0 _ rfl hn0 (by unfold maxLen; omega) _ _ _ rfl rfl (key8 98 (by omega)) _ [] (plainElem_int Try.underlying3 (WalkArith.wf_i64 (by omega))) ?_; intro wm0 hn1 hgw0; clear hn0) | (refine wpList_insert_own _ rfl _ _ _ 56 rfl 5 3 law8 Try.underlying56 _ wx.heap.size 1 _ rfl hn1 (by unfold maxLen; omega) _ _ _ rfl rfl (key8 111 (by omega)) _ [] (plainElem_int Try.underlying3 (WalkArith.wf_i64 (by omega))) ?_; intro wm1 hn2 hgw1; clear hn1) | (refine wpList_insert_own _ rfl _ _ _ 56 rfl 5 3 law8 Try.underlying56 _ wx.heap.size 2 _ rfl hn2 (by unfold maxLen; omega) _ _ _ rfl rfl (key8 100 (by omega)) _ [] (plainElem_int Try.underlying3 (WalkArith.wf_i64 (by omega))) ?_; intro wm2 hn3 hgw2; clear hn2) | (refine wpList_insert_own _ rfl _ _ _ 56 rfl 5 3 law8 Try.underlying56 _ wx.heap.size 3 _ rfl hn3 (by unfold maxLen; omega) _ _ _ rfl rfl (key8 120 (by omega)) _ [] (plainElem_int Try.underlying3 (WalkArith.wf_i64 (by omega))) ?_; intro wm3 hn4 hgw3; clear hn3) | (at_lookup; refine wpList_lookup_own_int _ rfl _ _ 56 rfl 5 3 .i64 law8 Try.underlying56 Try.underlying3 (zeroI _) wx.heap.size 4 _ rfl hn4 _ _ rfl (key8 m hm8) ?_; intro cc hat hwc; clear hn4 hwc; have hb0 := bal wx (.map #[] 0); have hb1 := hb0.grown hgw0 hb0.size (fun j hj => by cases hj; exact Nat.le_refl _); have hb2 := hb1.grown hgw1 hb1.size (fun j hj => by cases hj; exact Nat.le_refl _); have hb3 := hb2.grown hgw2 hb2.size (fun j hj => by cases hj; exact Nat.le_refl _); have hb4 := hb3.grown hgw3 hb3.size (fun j hj => by cases hj; exact Nat.le_refl _); have Sm := S.nx hb4; have Fm := F.nx hb4 (Nat.le_of_lt S.lt); clear hb0 hb1 hb2 hb3 hb4 hgw0 hgw1 hgw2 hgw3; have q0 := Sm.cell 0; have qf0 := Sm.frozen 0; have q1 := Sm.cell 1; have qf1 := Sm.frozen 1; have hcc := at_rad HM.out hat; rw [hq] at hcc; subst hcc; clear hat))
                have S2 := (Sm.set 1 (.int .i64 (q : Int))).set 0 (.string (s'.extract 2 s'.size))
                have F2 := (Fm.set 1 (.int .i64 (q : Int))).set 0 (.string (s'.extract 2 s'.size))
                go_roundg (s'.extract 2 s'.size).size
                case measure => rw [ByteArray.size_extract]; omega
                case rel => exact ⟨true, ex, s'.extract 2 s'.size, q, rfl, rfl, by rw [ByteArray.size_extract]; omega, rfl, by show _ = _; rw [hsd]; exact HE.out, S2, F2⟩
              · have HE := Lib.hid (hp.out.trans (preF_no ce (by simp)))
                clear hq
                have hq := hqq
                clear hp ce hqq
                have hn0 := World.ownsMap_made wx Try.prog 5 (plainElem (H := Unit) Try.prog 3)
                go_wp2_with fail
                refine (hh _).mono ?_; rintro e w' ⟨rfl, rfl⟩
                clear hh
                go_wp2_with (first | (refine wpList_insert_own _ rfl _ _ _ 56 rfl 5 3 law8 Try.underlying56 _ wx.heap.size 0 _ rfl hn0 (by unfold maxLen; omega) _ _ _ rfl rfl (key8 98 (by omega)) _ [] (plainElem_int Try.underlying3 (WalkArith.wf_i64 (by omega))) ?_; intro wm0 hn1 hgw0; clear hn0) | (refine wpList_insert_own _ rfl _ _ _ 56 rfl 5 3 law8 Try.underlying56 _ wx.heap.size 1 _ rfl hn1 (by unfold maxLen; omega) _ _ _ rfl rfl (key8 111 (by omega)) _ [] (plainElem_int Try.underlying3 (WalkArith.wf_i64 (by omega))) ?_; intro wm1 hn2 hgw1; clear hn1) | (refine wpList_insert_own _ rfl _ _ _ 56 rfl 5 3 law8 Try.underlying56 _ wx.heap.size 2 _ rfl hn2 (by unfold maxLen; omega) _ _ _ rfl rfl (key8 100 (by omega)) _ [] (plainElem_int Try.underlying3 (WalkArith.wf_i64 (by omega))) ?_; intro wm2 hn3 hgw2; clear hn2) | (refine wpList_insert_own _ rfl _ _ _ 56 rfl 5 3 law8 Try.underlying56 _ wx.heap.size 3 _ rfl hn3 (by unfold maxLen; omega) _ _ _ rfl rfl (key8 120 (by omega)) _ [] (plainElem_int Try.underlying3 (WalkArith.wf_i64 (by omega))) ?_; intro wm3 hn4 hgw3; clear hn3) | (at_lookup; refine wpList_lookup_own_int _ rfl _ _ 56 rfl 5 3 .i64 law8 Try.underlying56 Try.underlying3 (zeroI _) wx.heap.size 4 _ rfl hn4 _ _ rfl (key8 m hm8) ?_; intro cc hat hwc; clear hn4 hwc; have hb0 := bal wx (.map #[] 0); have hb1 := hb0.grown hgw0 hb0.size (fun j hj => by cases hj; exact Nat.le_refl _); have hb2 := hb1.grown hgw1 hb1.size (fun j hj => by cases hj; exact Nat.le_refl _); have hb3 := hb2.grown hgw2 hb2.size (fun j hj => by cases hj; exact Nat.le_refl _); have hb4 := hb3.grown hgw3 hb3.size (fun j hj => by cases hj; exact Nat.le_refl _); have Sm := S.nx hb4; have Fm := F.nx hb4 (Nat.le_of_lt S.lt); clear hb0 hb1 hb2 hb3 hb4 hgw0 hgw1 hgw2 hgw3; have q0 := Sm.cell 0; have qf0 := Sm.frozen 0; have q1 := Sm.cell 1; have qf1 := Sm.frozen 1; have hcc := at_rad HM.out hat; rw [hq] at hcc; subst hcc; clear hat))
                go_ret
                rw [HE.out]
                exact ⟨Fm, rfl⟩
    · rw [decide_eq_false c0] at hh
      have HE := Lib.hid (hp.out.trans (preF_stop c0))
      clear hp c0
      go_wp2_with fail
      refine (hh _).mono ?_; rintro e w' ⟨rfl, rfl⟩
      clear hh
      go_wp2_with fail
      go_ret
      rw [HE.out]
      exact ⟨F, rfl, s', rfl, S⟩
end Go.Proofs.Ytkjfpaommbjgbaa
