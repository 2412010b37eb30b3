/- Merged texts: RdC, RdD, PlainZ. -/
import Derived.Test.YtbgggepdlkbpoaaGreatDoorGJ
import Derived.Maps.Own
import Derived.Maps.OwnOps
import Derived.Test.YtbgggepdlkbpoaaGreatDoorGH
import Derived.Test.YtbgggepdlkbpoaaGreatDoorGA
namespace Go.Proofs.YtbgggepdlkbpoaaGreatDoor
open Go.RowKit Go.Maps

theorem preF_stop {k : Nat} {told ex : Bool} {l : List UInt8} (h : ¬ l.head? = some 35) : preF k told ex l = some (k, l) := by
  match l with
  | [] => rfl
  | [a] => unfold preF; rw [if_neg (fun e => h (by rw [e]; rfl))]
  | a :: c :: t => unfold preF; rw [if_neg (fun e => h (by rw [e]; rfl))]
theorem preF_one {k : Nat} {told ex : Bool} : preF k told ex [35] = none := by unfold preF; rw [if_pos rfl]
theorem preF_e {k : Nat} {told : Bool} {c : UInt8} {t : List UInt8} (h : c ||| 32 = 101) : preF k told false (35 :: c :: t) = preF k told true t := by
  conv => lhs; unfold preF
  rw [if_pos rfl, if_pos ⟨(e_or c).1 h, rfl⟩]
theorem preF_r {k : Nat} {ex : Bool} {c : UInt8} {t : List UInt8} (h : ¬ (c ||| 32 = 101 ∧ ex = false)) (hr : radL c ≠ 0) : preF k false ex (35 :: c :: t) = preF (radL c) true ex t := by
  conv => lhs; unfold preF
  rw [if_pos rfl, if_neg (by rw [← e_or]; exact h), if_pos ⟨hr, rfl⟩]
theorem preF_no {k : Nat} {told ex : Bool} {c : UInt8} {t : List UInt8} (h : ¬ (c ||| 32 = 101 ∧ ex = false)) (hr : ¬ (radL c ≠ 0 ∧ told = false)) : preF k told ex (35 :: c :: t) = none := by
  conv => lhs; unfold preF
  rw [if_pos rfl, if_neg (by rw [← e_or]; exact h), if_neg hr]
theorem or32 (c : UInt8) : bits BinOp.or IntKind.u8 (c.toNat : Int) 32 = (((c ||| 32).toNat : Nat) : Int) := by
  have h : ∀ n : Fin 256, bits BinOp.or IntKind.u8 ((UInt8.ofNat n).toNat : Int) 32 = (((UInt8.ofNat n ||| 32).toNat : Nat) : Int) := by decide +kernel
  have := h ⟨c.toNat, c.toNat_lt⟩
  simpa using this
def radT (n : Nat) : Nat := if n = 98 then 2 else if n = 111 then 8 else if n = 100 then 10 else if n = 120 then 16 else 0
theorem radT_or (c : UInt8) : radT (c ||| 32).toNat = radL c := by
  have h : ∀ n : Fin 256, radT (UInt8.ofNat n ||| 32).toNat = radL (UInt8.ofNat n) := by decide +kernel
  have := h ⟨c.toNat, c.toNat_lt⟩
  simpa using this
/-- the map of letters, as it is filled -/
def dkl (n : Int) : Lit := .int .u8 n
def dvl (n : Int) : DataW Unit := .lit (.int .i64 n)
theorem dm4 : (((((DataW.map [] : DataW Unit).put (dkl 98) (dvl 2)).put (dkl 111) (dvl 8)).put (dkl 100) (dvl 10)).put (dkl 120) (dvl 16)) = .map [(dkl 98, dvl 2), (dkl 100, dvl 10), (dkl 111, dvl 8), (dkl 120, dvl 16)] := by rfl
theorem dm_at (n : Nat) : (DataW.map [(dkl 98, dvl 2), (dkl 100, dvl 10), (dkl 111, dvl 8), (dkl 120, dvl 16)]).atKey (.int .u8 (n : Int)) (.lit (.int .i64 0)) = .lit (.int .i64 (radT n : Nat)) := by
  unfold DataW.atKey radT
  by_cases h1 : n = 98
  · subst h1; rfl
  by_cases h2 : n = 111
  · subst h2; rfl
  by_cases h3 : n = 100
  · subst h3; rfl
  by_cases h4 : n = 120
  · subst h4; rfl
  have g1 : ¬ (98 : Int) = n := by omega
  have g2 : ¬ (111 : Int) = n := by omega
  have g3 : ¬ (100 : Int) = n := by omega
  have g4 : ¬ (120 : Int) = n := by omega
  simp [List.find?, dkl, Lit.sameKey, g1, g2, g3, g4, h1, h2, h3, h4]
theorem at_101 {cc : Int} (h : (((((DataW.map [] : DataW Unit).put (.int .u8 98) (.lit (.int .i64 2))).put (.int .u8 111) (.lit (.int .i64 8))).put (.int .u8 100) (.lit (.int .i64 10))).put (.int .u8 120) (.lit (.int .i64 16))).atKey (.int .u8 101) (.lit (.int .i64 0)) = .lit (.int .i64 cc)) : cc = 0 := by
  have h1 : (DataW.map [(dkl 98, dvl 2), (dkl 100, dvl 10), (dkl 111, dvl 8), (dkl 120, dvl 16)]).atKey (.int .u8 ((101 : Nat) : Int)) (.lit (.int .i64 0)) = .lit (.int .i64 cc) := by rw [← dm4]; exact h
  rw [dm_at] at h1
  injection h1 with h1
  injection h1 with _ h1
  exact h1.symm
theorem at_rad {c : UInt8} {m : Nat} {cc : Int} (hm : (c ||| 32).toNat = m) (h : (((((DataW.map [] : DataW Unit).put (.int .u8 98) (.lit (.int .i64 2))).put (.int .u8 111) (.lit (.int .i64 8))).put (.int .u8 100) (.lit (.int .i64 10))).put (.int .u8 120) (.lit (.int .i64 16))).atKey (.int .u8 (m : Int)) (.lit (.int .i64 0)) = .lit (.int .i64 cc)) : cc = (radL c : Int) := by
  have h1 : (DataW.map [(dkl 98, dvl 2), (dkl 100, dvl 10), (dkl 111, dvl 8), (dkl 120, dvl 16)]).atKey (.int .u8 (m : Int)) (.lit (.int .i64 0)) = .lit (.int .i64 cc) := by rw [← dm4]; exact h
  rw [dm_at, ← hm, radT_or] at h1
  injection h1 with h1
  injection h1 with _ h1
  exact h1.symm
theorem law8 : Keyed Tryz.prog 5 := int_keyed Tryz.underlying5
theorem zeroI (w : World) : (zeroValue 3).run Tryz.prog w = .ok (.int .i64 0) w := by kernel_rfl
theorem key8 (n : Nat) (h : n < 256) : keyOf Tryz.prog 5 (.int .u8 (n : Int)) = some (.int .u8 (n : Int)) := keyOf_int_mk Tryz.underlying5 (by simp [Lit.wf, show IntKind.u8.min = 0 from rfl, show IntKind.u8.max = 255 from rfl]; omega)
/-- a literal's insert into a map of the call's own -/
theorem wpList_insert_own {H : Type} {P : Program} (w : World) {ops : Array Oper} {rest : List Oper} {o : Oper} {a : Act} {Q : Exit → Act → World → Prop}
    (hg : o.guard = none) (m x v : Operand) (t : TypeId) (hop : o.op = Op.insert t m x v)
    (k e : TypeId) (K : Keyed P k) (ht : P.underlying t = some (.map k e)) (R : Value → Option (DataW H × List MemPlace)) (b n : Nat) (D : DataW H)
    (hm : a.eval m = .map (some b)) (hown : w.ownsMap P k R b n D) (hn : n < maxLen) (key val : Value) (kl : Lit) (hx : a.eval x = key) (hv : a.eval v = val) (hkey : keyOf P k key = some kl)
    (d : DataW H) (ps : List MemPlace) (hval : R val = some (d, ps))
    (hK : ∀ w', w'.ownsMap P k R b (n + 1) (D.put kl d) → w.grownBy w' (some b) → wpList P ops Q rest (a.put o.dst undef) w') :
    wpList P ops Q (o :: rest) a w := by
  refine wpList_plain hg fun K' hK' => ?_
  obtain ⟨w', hrun, r1, r2⟩ := hown.update K ht hn hkey hval
  unfold Oper.wp
  simp [execOp, hop, hm, hx, hv, hrun, Result.andThen]
  exact hK' _ _ (hK w' r1 r2)
/-- what prefixes gives, and leaves in the reader -/
def RetPr (w : World) (g : Nat) (x : Option (Nat × List UInt8)) (v : Value) (e : Ending) (w' : World) : Prop :=
  FarW g w w' ∧ (match x with
    | none => e = .returned (.bool false)
    | some (k, t) => e = .returned (.bool true) ∧ ∃ s', s'.data.toList = t ∧ SB w' g [.string s', .int .i64 (k : Int), v])


set_option maxRecDepth 100000 in
set_option maxHeartbeats 8000000 in
theorem prefixes_any (g : Nat) (s : ByteArray) (r : Nat) (v : Value) (w : World) (hs : s.size ≤ 140737488351232) (S : SB w g [.string s, .int .i64 (r : Int), v]) :
    Calls Tryz.prog 36 #[.pointer (some ⟨g, 0, none⟩)] w (RetPr w g (preF r false false s.data.toList) v) := by
  have hgw := S.lt
  have hmm := @run_makeMap Tryz.prog
  go_enter Tryz.func36, Tryz.ntmps36
  go_wp2_with fail
  go_loopg [3, 4] s.size (fun gk s3 s4 wx => ∃ (told ex : Bool) (s' : ByteArray) (k : Nat), s3 = .bool told ∧ s4 = .bool ex ∧ s'.size ≤ 140737488351232 ∧ gk = s'.size ∧ Hid (preF r false false s.data.toList = preF k told ex s'.data.toList) ∧ SB wx g [.string s', .int .i64 (k : Int), v] ∧ FarW g w wx)
  case atStart => exact ⟨false, false, s, r, rfl, rfl, hs, rfl, rfl, S, FarW.refl _ _⟩
  case round =>
    clear S hs
    obtain ⟨told, ex, s', k, rfl, rfl, hs, rfl, hp, S, F⟩ := hrel
    obtain ⟨wx, rfl⟩ : ∃ wx : World, wx = wr := ⟨_, rfl⟩
    have m0 := S.cell 0
    have f0 := S.frozen 0
    have f1 := S.frozen 1
    have hh := fun w => hasp_any s' 35 w
    by_cases c0 : s'.data.toList.head? = some 35
    · rw [decide_eq_true c0] at hh
      have hl := s_len s'
      by_cases c1 : s'.size < 2
      · have he : s'.data.toList = [35] := by
          cases hd : s'.data.toList with
          | nil => rw [hd] at c0; cases c0
          | cons a t =>
            rw [hd] at c0 hl
            cases t with
            | nil => simp at c0; exact congrArg (fun x => [x]) c0
            | cons b t => simp at hl; omega
        have d1 : (s'.size : Int) < 2 := by omega
        have HE := Lib.hid (hp.out.trans (show preF k told ex s'.data.toList = none by rw [he]; exact preF_one))
        clear hp he hl c0 c1
        go_wp2_with fail
        refine (hh _).mono ?_; rintro e w' ⟨rfl, rfl⟩
        clear hh
        go_wp2_with fail
        go_ret
        rw [HE.out]
        exact ⟨F, rfl⟩
      · have d1 : decide ((s'.size : Int) < 2) = false := decide_eq_false (by omega)
        have hp1 : 1 < s'.size := by omega
        have e1 := s_at hp1
        have hsd : (s'.extract 2 s'.size).data.toList = s'.data.toList.drop 2 := ext_drop s' 2
        have hl2 : (2 : Int) ≤ (s'.size : Int) := by omega
        obtain ⟨c, t, hct⟩ : ∃ c t, s'.data.toList = 35 :: c :: t := by
          cases hd : s'.data.toList with
          | nil => rw [hd] at c0; cases c0
          | cons a t =>
            rw [hd] at c0 hl
            cases t with
            | nil => simp at hl; omega
            | cons b t => simp at c0; rw [c0]; exact ⟨b, t, rfl⟩
        have hb : byt s'.data.toList 1 = c.toNat := by rw [hct]; rfl
        rw [hb] at e1
        rw [hct] at hp
        rw [hct, show (35 :: c :: t).drop 2 = t from rfl] at hsd
        clear hct hb hl c0 c1
        have hor := or32 c
        obtain ⟨m, hm⟩ : ∃ m, (c ||| 32).toNat = m := ⟨_, rfl⟩
        have hm8 : m < 256 := by rw [← hm]; exact UInt8.toNat_lt _
        rw [hm] at hor
        have HM := Lib.hid hm
        clear hm
        by_cases ce : c ||| 32 = 101 ∧ ex = false
        · obtain ⟨ce, rfl⟩ := ce
          have hce : (m : Int) = 101 := by have := HM.out; rw [ce] at this; rw [← this]; rfl
          have HE := Lib.hid (hp.out.trans (preF_e ce))
          clear hp ce
          have S2 := S.set 0 (.string (s'.extract 2 s'.size))
          have F2 := F.set 0 (.string (s'.extract 2 s'.size))
          go_wp2_with fail
          refine (hh _).mono ?_; rintro e w' ⟨rfl, rfl⟩
          clear hh
          go_wp2_with fail
          go_roundg (s'.extract 2 s'.size).size
          case measure => rw [ByteArray.size_extract]; omega
          case rel => exact ⟨told, true, s'.extract 2 s'.size, k, rfl, rfl, by rw [ByteArray.size_extract]; omega, rfl, by show _ = _; rw [hsd]; exact HE.out, S2, F2⟩
        · by_cases cy : c ||| 32 = 101
          · have hce : (m : Int) = 101 := by have := HM.out; rw [cy] at this; rw [← this]; rfl
            have hq : radL c = 0 := by rw [← radT_or, cy]; rfl
            have HE := Lib.hid (hp.out.trans (preF_no ce (by rw [hq]; simp)))
            cases ex
            · exact absurd ⟨cy, rfl⟩ ce
            · skip
              clear hp ce cy
              have hn0 := World.ownsMap_made wx Tryz.prog 5 (plainElem (H := Unit) Tryz.prog 3)
              go_wp2_with fail
              refine (hh _).mono ?_; rintro e w' ⟨rfl, rfl⟩
              clear hh
              go_wp2_with (first | (refine wpList_insert_own _ rfl _ _ _ 92 rfl 5 3 law8 Tryz.underlying92 _ wx.heap.size 0 _ rfl hn0 (by unfold maxLen; omega) _ _ _ rfl rfl (key8 98 (by omega)) _ [] (plainElem_int Tryz.underlying3 (WalkArith.wf_i64 (by omega))) ?_; intro wm0 hn1 hgw0; clear hn0) | (refine wpList_insert_own _ rfl _ _ _ 92 rfl 5 3 law8 Tryz.underlying92 _ wx.heap.size 1 _ rfl hn1 (by unfold maxLen; omega) _ _ _ rfl rfl (key8 111 (by omega)) _ [] (plainElem_int Tryz.underlying3 (WalkArith.wf_i64 (by omega))) ?_; intro wm1 hn2 hgw1; clear hn1) | (refine wpList_insert_own _ rfl _ _ _ 92 rfl 5 3 law8 Tryz.underlying92 _ wx.heap.size 2 _ rfl hn2 (by unfold maxLen; omega) _ _ _ rfl rfl (key8 100 (by omega)) _ [] (plainElem_int Tryz.underlying3 (WalkArith.wf_i64 (by omega))) ?_; intro wm2 hn3 hgw2; clear hn2) | (refine wpList_insert_own _ rfl _ _ _ 92 rfl 5 3 law8 Tryz.underlying92 _ wx.heap.size 3 _ rfl hn3 (by unfold maxLen; omega) _ _ _ rfl rfl (key8 120 (by omega)) _ [] (plainElem_int Tryz.underlying3 (WalkArith.wf_i64 (by omega))) ?_; intro wm3 hn4 hgw3; clear hn3) | (at_lookup; refine wpList_lookup_own_int _ rfl _ _ 92 rfl 5 3 .i64 law8 Tryz.underlying92 Tryz.underlying3 (zeroI _) wx.heap.size 4 _ rfl hn4 _ _ rfl (key8 101 (by omega)) ?_; intro cc hat hwc; clear hn4 hwc; have hb0 := bal wx (.map #[] 0); have hb1 := hb0.grown hgw0 hb0.size (fun j hj => by cases hj; exact Nat.le_refl _); have hb2 := hb1.grown hgw1 hb1.size (fun j hj => by cases hj; exact Nat.le_refl _); have hb3 := hb2.grown hgw2 hb2.size (fun j hj => by cases hj; exact Nat.le_refl _); have hb4 := hb3.grown hgw3 hb3.size (fun j hj => by cases hj; exact Nat.le_refl _); have Sm := S.nx hb4; have Fm := F.nx hb4 (Nat.le_of_lt S.lt); clear hb0 hb1 hb2 hb3 hb4 hgw0 hgw1 hgw2 hgw3; have q0 := Sm.cell 0; have qf0 := Sm.frozen 0; have q1 := Sm.cell 1; have qf1 := Sm.frozen 1; have hcc := at_101 hat; subst hcc; clear hat))
              go_ret
              rw [HE.out]
              exact ⟨Fm, rfl⟩
          · have tc : ((m : Int) == 101) = false := beq_eq_false_iff_ne.2 fun h => cy (UInt8.toNat.inj (by show _ = 101; have := HM.out; omega))
            clear cy
            by_cases hq : radL c = 0
            · have HE := Lib.hid (hp.out.trans (preF_no ce (by rw [hq]; simp)))
              clear hp ce
              have hn0 := World.ownsMap_made wx Tryz.prog 5 (plainElem (H := Unit) Tryz.prog 3)
              go_wp2_with fail
              refine (hh _).mono ?_; rintro e w' ⟨rfl, rfl⟩
              clear hh
              go_wp2_with (first | (refine wpList_insert_own _ rfl _ _ _ 92 rfl 5 3 law8 Tryz.underlying92 _ wx.heap.size 0 _ rfl hn0 (by unfold maxLen; omega) _ _ _ rfl rfl (key8 98 (by omega)) _ [] (plainElem_int Tryz.underlying3 (WalkArith.wf_i64 (by omega))) ?_; intro wm0 hn1 hgw0; clear hn0) | (refine wpList_insert_own _ rfl _ _ _ 92 rfl 5 3 law8 Tryz.underlying92 _ wx.heap.size 1 _ rfl hn1 (by unfold maxLen; omega) _ _ _ rfl rfl (key8 111 (by omega)) _ [] (plainElem_int Tryz.underlying3 (WalkArith.wf_i64 (by omega))) ?_; intro wm1 hn2 hgw1; clear hn1) | (refine wpList_insert_own _ rfl _ _ _ 92 rfl 5 3 law8 Tryz.underlying92 _ wx.heap.size 2 _ rfl hn2 (by unfold maxLen; omega) _ _ _ rfl rfl (key8 100 (by omega)) _ [] (plainElem_int Tryz.underlying3 (WalkArith.wf_i64 (by omega))) ?_; intro wm2 hn3 hgw2; clear hn2) | (refine wpList_insert_own _ rfl _ _ _ 92 rfl 5 3 law8 Tryz.underlying92 _ wx.heap.size 3 _ rfl hn3 (by unfold maxLen; omega) _ _ _ rfl rfl (key8 120 (by omega)) _ [] (plainElem_int Tryz.underlying3 (WalkArith.wf_i64 (by omega))) ?_; intro wm3 hn4 hgw3; clear hn3) | (at_lookup; refine wpList_lookup_own_int _ rfl _ _ 92 rfl 5 3 .i64 law8 Tryz.underlying92 Tryz.underlying3 (zeroI _) wx.heap.size 4 _ rfl hn4 _ _ rfl (key8 m hm8) ?_; intro cc hat hwc; clear hn4 hwc; have hb0 := bal wx (.map #[] 0); have hb1 := hb0.grown hgw0 hb0.size (fun j hj => by cases hj; exact Nat.le_refl _); have hb2 := hb1.grown hgw1 hb1.size (fun j hj => by cases hj; exact Nat.le_refl _); have hb3 := hb2.grown hgw2 hb2.size (fun j hj => by cases hj; exact Nat.le_refl _); have hb4 := hb3.grown hgw3 hb3.size (fun j hj => by cases hj; exact Nat.le_refl _); have Sm := S.nx hb4; have Fm := F.nx hb4 (Nat.le_of_lt S.lt); clear hb0 hb1 hb2 hb3 hb4 hgw0 hgw1 hgw2 hgw3; have q0 := Sm.cell 0; have qf0 := Sm.frozen 0; have q1 := Sm.cell 1; have qf1 := Sm.frozen 1; have hcc := at_rad HM.out hat; rw [hq] at hcc; rw [Int.natCast_zero] at hcc; subst hcc; clear hat))
              go_ret
              rw [HE.out]
              exact ⟨Fm, rfl⟩
            · obtain ⟨q, hqq⟩ : ∃ q, radL c = q := ⟨_, rfl⟩
              have hqp : (0 : Int) < (q : Int) := by rw [hqq] at hq; omega
              cases told
              · have HE := Lib.hid (hp.out.trans (preF_r ce hq))
                rw [hqq] at HE
                clear hq
                have hq := hqq
                clear hp ce hqq
                have hn0 := World.ownsMap_made wx Tryz.prog 5 (plainElem (H := Unit) Tryz.prog 3)
                go_wp2_with fail
                refine (hh _).mono ?_; rintro e w' ⟨rfl, rfl⟩
                clear hh
                go_wp2_with (first | (refine wpList_insert_own _ rfl _ _ _ 92 rfl 5 3 law8 Tryz.underlying92 _ wx.heap.size 0 _ rfl hn0 (by unfold maxLen; omega) _ _ _ rfl rfl (key8 98 (by omega)) _ [] (plainElem_int Tryz.underlying3 (WalkArith.wf_i64 (by omega))) ?_; intro wm0 hn1 hgw0; clear hn0) | (refine wpList_insert_own _ rfl _ _ _ 92 rfl 5 3 law8 Tryz.underlying92 _ wx.heap.size 1 _ rfl hn1 (by unfold maxLen; omega) _ _ _ rfl rfl (key8 111 (by omega)) _ [] (plainElem_int Tryz.underlying3 (WalkArith.wf_i64 (by omega))) ?_; intro wm1 hn2 hgw1; clear hn1) | (refine wpList_insert_own _ rfl _ _ _ 92 rfl 5 3 law8 Tryz.underlying92 _ wx.heap.size 2 _ rfl hn2 (by unfold maxLen; omega) _ _ _ rfl rfl (key8 100 (by omega)) _ [] (plainElem_int Tryz.underlying3 (WalkArith.wf_i64 (by omega))) ?_; intro wm2 hn3 hgw2; clear hn2) | (refine wpList_insert_own _ rfl _ _ _ 92 rfl 5 3 law8 Tryz.underlying92 _ wx.heap.size 3 _ rfl hn3 (by unfold maxLen; omega) _ _ _ rfl rfl (key8 120 (by omega)) _ [] (plainElem_int Tryz.underlying3 (WalkArith.wf_i64 (by omega))) ?_; intro wm3 hn4 hgw3; clear hn3) | (at_lookup; refine wpList_lookup_own_int _ rfl _ _ 92 rfl 5 3 .i64 law8 Tryz.underlying92 Tryz.underlying3 (zeroI _) wx.heap.size 4 _ rfl hn4 _ _ rfl (key8 m hm8) ?_; intro cc hat hwc; clear hn4 hwc; have hb0 := bal wx (.map #[] 0); have hb1 := hb0.grown hgw0 hb0.size (fun j hj => by cases hj; exact Nat.le_refl _); have hb2 := hb1.grown hgw1 hb1.size (fun j hj => by cases hj; exact Nat.le_refl _); have hb3 := hb2.grown hgw2 hb2.size (fun j hj => by cases hj; exact Nat.le_refl _); have hb4 := hb3.grown hgw3 hb3.size (fun j hj => by cases hj; exact Nat.le_refl _); have Sm := S.nx hb4; have Fm := F.nx hb4 (Nat.le_of_lt S.lt); clear hb0 hb1 hb2 hb3 hb4 hgw0 hgw1 hgw2 hgw3; have q0 := Sm.cell 0; have qf0 := Sm.frozen 0; have q1 := Sm.cell 1; have qf1 := Sm.frozen 1; have hcc := at_rad HM.out hat; rw [hq] at hcc; subst hcc; clear hat))
                have S2 := (Sm.set 1 (.int .i64 (q : Int))).set 0 (.string (s'.extract 2 s'.size))
                have F2 := (Fm.set 1 (.int .i64 (q : Int))).set 0 (.string (s'.extract 2 s'.size))
                go_roundg (s'.extract 2 s'.size).size
                case measure => rw [ByteArray.size_extract]; omega
                case rel => exact ⟨true, ex, s'.extract 2 s'.size, q, rfl, rfl, by rw [ByteArray.size_extract]; omega, rfl, by show _ = _; rw [hsd]; exact HE.out, S2, F2⟩
              · have HE := Lib.hid (hp.out.trans (preF_no ce (by simp)))
                clear hq
                have hq := hqq
                clear hp ce hqq
                have hn0 := World.ownsMap_made wx Tryz.prog 5 (plainElem (H := Unit) Tryz.prog 3)
                go_wp2_with fail
                refine (hh _).mono ?_; rintro e w' ⟨rfl, rfl⟩
                clear hh
                go_wp2_with (first | (refine wpList_insert_own _ rfl _ _ _ 92 rfl 5 3 law8 Tryz.underlying92 _ wx.heap.size 0 _ rfl hn0 (by unfold maxLen; omega) _ _ _ rfl rfl (key8 98 (by omega)) _ [] (plainElem_int Tryz.underlying3 (WalkArith.wf_i64 (by omega))) ?_; intro wm0 hn1 hgw0; clear hn0) | (refine wpList_insert_own _ rfl _ _ _ 92 rfl 5 3 law8 Tryz.underlying92 _ wx.heap.size 1 _ rfl hn1 (by unfold maxLen; omega) _ _ _ rfl rfl (key8 111 (by omega)) _ [] (plainElem_int Tryz.underlying3 (WalkArith.wf_i64 (by omega))) ?_; intro wm1 hn2 hgw1; clear hn1) | (refine wpList_insert_own _ rfl _ _ _ 92 rfl 5 3 law8 Tryz.underlying92 _ wx.heap.size 2 _ rfl hn2 (by unfold maxLen; omega) _ _ _ rfl rfl (key8 100 (by omega)) _ [] (plainElem_int Tryz.underlying3 (WalkArith.wf_i64 (by omega))) ?_; intro wm2 hn3 hgw2; clear hn2) | (refine wpList_insert_own _ rfl _ _ _ 92 rfl 5 3 law8 Tryz.underlying92 _ wx.heap.size 3 _ rfl hn3 (by unfold maxLen; omega) _ _ _ rfl rfl (key8 120 (by omega)) _ [] (plainElem_int Tryz.underlying3 (WalkArith.wf_i64 (by omega))) ?_; intro wm3 hn4 hgw3; clear hn3) | (at_lookup; refine wpList_lookup_own_int _ rfl _ _ 92 rfl 5 3 .i64 law8 Tryz.underlying92 Tryz.underlying3 (zeroI _) wx.heap.size 4 _ rfl hn4 _ _ rfl (key8 m hm8) ?_; intro cc hat hwc; clear hn4 hwc; have hb0 := bal wx (.map #[] 0); have hb1 := hb0.grown hgw0 hb0.size (fun j hj => by cases hj; exact Nat.le_refl _); have hb2 := hb1.grown hgw1 hb1.size (fun j hj => by cases hj; exact Nat.le_refl _); have hb3 := hb2.grown hgw2 hb2.size (fun j hj => by cases hj; exact Nat.le_refl _); have hb4 := hb3.grown hgw3 hb3.size (fun j hj => by cases hj; exact Nat.le_refl _); have Sm := S.nx hb4; have Fm := F.nx hb4 (Nat.le_of_lt S.lt); clear hb0 hb1 hb2 hb3 hb4 hgw0 hgw1 hgw2 hgw3; have q0 := Sm.cell 0; have qf0 := Sm.frozen 0; have q1 := Sm.cell 1; have qf1 := Sm.frozen 1; have hcc := at_rad HM.out hat; rw [hq] at hcc; subst hcc; clear hat))
                go_ret
                rw [HE.out]
                exact ⟨Fm, rfl⟩
    · rw [decide_eq_false c0] at hh
      have HE := Lib.hid (hp.out.trans (preF_stop c0))
      clear hp c0
      go_wp2_with fail
      refine (hh _).mono ?_; rintro e w' ⟨rfl, rfl⟩
      clear hh
      go_wp2_with fail
      go_ret
      rw [HE.out]
      exact ⟨F, rfl, s', rfl, S⟩
end Go.Proofs.YtbgggepdlkbpoaaGreatDoor
namespace Go.Proofs.YtbgggepdlkbpoaaGreatDoor
open Go.RowKit

theorem digP_dig {r : Nat} (l : List UInt8) (e : Int) : (∃ n, (digP (isDr r) (rdr r) l e).1 = digs n ∧ (digs n).length ≤ 512) ∧ (digP (isDr r) (rdr r) l e).2.2.1.length ≤ l.length := by
  have hz : (digs 0).length ≤ 512 := by rw [digs_zero]; simp
  unfold digP
  split
  · exact ⟨⟨0, digs_zero.symm, hz⟩, Nat.le_refl _⟩
  · refine ⟨?_, ?_⟩
    · show ∃ n, (rdr r (l.takeWhile (isDr r))).1 = digs n ∧ _
      unfold rdr
      generalize l.takeWhile (isDr r) = t
      refine ⟨_, rfl, ?_⟩
      unfold readA readD fitA
      repeat' split
      all_goals first | exact hz | assumption
    · exact (List.dropWhile_suffix _).length_le
section
variable {isD : UInt8 → Bool} {rd : List UInt8 → List Nat × Int} {mk : Bool → List Nat → List Nat → Rw}
theorem frac_plain {s s1 : List UInt8} {w e1 : Int} {d : List Nat} {ok : Bool} (neg : Bool) (h : digP isD rd s w = (d, ok, s1, e1)) (hn : ¬ (ok = true ∧ s1.head? = some 47)) : fracP isD rd mk neg s w = (mk neg d [1], ok, s1, e1) := by
  unfold fracP
  rw [h]
  dsimp only
  rw [if_neg hn]
theorem frac_slash {s s1 s2 : List UInt8} {w e1 e2 : Int} {d d2 : List Nat} {ok2 : Bool} (neg : Bool) (h : digP isD rd s w = (d, true, s1, e1)) (hh : s1.head? = some 47) (h2 : digP isD rd s1.tail e1 = (d2, ok2, s2, e2)) :
    fracP isD rd mk neg s w = if d2 = [] then (mk neg d [1], ok2, s2, if ok2 = true ∧ e2 = 0 then 3 else e2) else (mk neg d d2, ok2, s2, e2) := by
  unfold fracP
  rw [h]
  dsimp only
  rw [if_pos ⟨rfl, hh⟩, h2]
end
/-- what fraction gives, and leaves in the reader -/
def RetFr (w : World) (g r : Nat) (x : Rw × Bool × List UInt8 × Int) (e : Ending) (w' : World) : Prop :=
  ∃ A c D d s', e = .returned (.tuple #[.agg #[.bool x.1.s, .slice A x.1.a.length c, .slice D x.1.b.length d], .bool x.2.1]) ∧ OW w' w.heap.size A c x.1.a ∧ OW w' w.heap.size D d x.1.b ∧ s'.data.toList = x.2.2.1 ∧ SB w' g [.string s', .int .i64 (r : Int), .int .i64 x.2.2.2] ∧ FarW g w w'


set_option maxRecDepth 100000 in
set_option maxHeartbeats 8000000 in
theorem fraction_any (g : Nat) (s : ByteArray) (r : Nat) (e : Int) (neg : Bool) (w : World) (hs : s.size ≤ 140737488351232) (hr1 : 2 ≤ r) (hr2 : r ≤ 36) (S : SB w g [.string s, .int .i64 (r : Int), .int .i64 e]) :
    Calls Tryz.prog 60 #[.pointer (some ⟨g, 0, none⟩), .bool neg] w (RetFr w g r (fracP (isDr r) (rdr r) mkr neg s.data.toList e)) := by
  have hgw := S.lt
  have B1 := bal w (.cells #[.bool false, .slice none 0 0, .slice none 0 0] 24)
  have X1 := SB.new w [.bool false, .slice none 0 0, .slice none 0 0] 24
  have S1 := S.nx B1
  have h1 := digits_any g s r e _ hs hr1 hr2 S1
  have hd := digP_dig (r := r) s.data.toList e
  obtain ⟨x1, hx⟩ : ∃ x1, digP (isDr r) (rdr r) s.data.toList e = x1 := ⟨_, rfl⟩
  rw [hx] at h1 hd
  obtain ⟨d1, ok1, s1, e1⟩ := x1
  obtain ⟨⟨n, hn, hnl⟩, hsz⟩ := hd
  rw [s_len] at hsz
  dsimp only at h1 hn hsz
  subst hn
  replace hsz := Nat.le_trans hsz hs
  have z1 : (w.alloc (.cells #[.bool false, .slice none 0 0, .slice none 0 0] 24)).heap.size = w.heap.size + 1 := by simp
  clear S hs
  go_enter Tryz.func60, Tryz.ntmps60
  go_wp2_with fail
  refine h1.mono ?_; rintro e' w3 ⟨A, c, s1', rfl, O, hs1, S3, F3⟩
  clear h1
  dsimp only at O hs1 S3
  have X3 := X1.farW F3 hgw
  rw [z1] at O
  replace F3 := (FarW.of B1 (Nat.le_of_lt hgw)).trans F3
  have k0 := S3.cell 0
  have kg := S3.frozen 0
  clear B1 X1 S1 z1
  cases ok1
  · skip
    have HE := Lib.hid (frac_plain (mk := mkr) neg hx (by simp))
    clear hx hsz
    go_wp2_with fail
    have hE := HE.out
    have hR := whole_any neg A c (digs n).length (digs n) w3 rfl O.rw (Nrm_digs n) (by omega)
    have hq : mkr neg (digs n) [1] = rwq ((sgn neg (val (digs n)) : Int) : Rat) := by unfold mkr; rw [whole_val]
    generalize ((sgn neg (val (digs n)) : Int) : Rat) = q at *
    rw [hq] at hE
    replace hE := Lib.hid hE
    clear hq
    go_wp2_with fail
    refine hR.mono ?_; rintro e' w8 ⟨A4, c4, A5, c5, rfl, O4, O5, B8⟩
    clear hR
    have X8 := X3.nx B8
    have Y8 := S3.nx B8
    have G8 := FarW.nx F3 B8 (by have := S3.lt; omega)
    have hb8 : w.heap.size < w3.heap.size := X3.lt
    clear B8
    have m0 := X8.cell 0
    have m1 := X8.cell 1
    have m2 := X8.cell 2
    have f0 := X8.frozen 0
    have f1 := X8.frozen 1
    have f2 := X8.frozen 2
    have X9 := X8.put3 (.bool (qn q)) (.slice A4 (digs (qt q)).length c4) (.slice A5 (digs (qd q)).length c5)
    have Y9 := Y8.wr3 (r := w.heap.size) (by omega) (.bool (qn q)) (.slice A4 (digs (qt q)).length c4) (.slice A5 (digs (qd q)).length c5)
    have G9 := ((G8.far (Nat.le_refl _) (Nat.le_of_lt hgw) 0 (.bool (qn q))).far (Nat.le_refl _) (Nat.le_of_lt hgw) 1 (.slice A4 (digs (qt q)).length c4)).far (Nat.le_refl _) (Nat.le_of_lt hgw) 2 (.slice A5 (digs (qd q)).length c5)
    have Oa := O4.put3 (b := w.heap.size) hb8 (.bool (qn q)) (.slice A4 (digs (qt q)).length c4) (.slice A5 (digs (qd q)).length c5)
    have Ob := O5.put3 (b := w.heap.size) hb8 (.bool (qn q)) (.slice A4 (digs (qt q)).length c4) (.slice A5 (digs (qd q)).length c5)
    have r0 := X9.cell 0
    have r1 := X9.cell 1
    have r2 := X9.cell 2
    unfold wr3 at X9 Y9 Oa Ob r0 r1 r2
    go_wp2_with fail
    refine bodyPost_ret (v := .tuple #[.agg #[.bool (qn q), .slice A4 (digs (qt q)).length c4, .slice A5 (digs (qd q)).length c5], .bool false]) (by simp [results, r0, r1, r2, go_sem]) rfl ?_
    rw [hE.out]
    exact ⟨A4, c4, A5, c5, _, rfl, Oa.base_le (by omega), Ob.base_le (by omega), hs1, Y9, G9⟩
  · have hp := fun w => hasp_any s1' 47 w
    rw [hs1] at hp
    by_cases hh : s1.head? = some 47
    · skip
      rw [decide_eq_true hh] at hp
      have hl := s_len s1'
      have hsp : 1 ≤ s1'.size := by rw [← hl, hs1]; cases hs : s1 with | nil => rw [hs] at hh; cases hh | cons a t => simp
      have hsi : (1 : Int) ≤ (s1'.size : Int) := by omega
      have hdr : (s1'.extract 1 s1'.size).data.toList = s1.tail := by rw [ext_drop, hs1, List.drop_one]
      have hs2 : (s1'.extract 1 s1'.size).size ≤ 140737488351232 := by rw [ByteArray.size_extract]; have := hsz; rw [← hs1, hl] at this; omega
      clear hl hsz
      have S4 := S3.set 0 (.string (s1'.extract 1 s1'.size))
      have F4 := F3.set 0 (.string (s1'.extract 1 s1'.size))
      have FS := (FarW.refl g w3).set 0 (.string (s1'.extract 1 s1'.size))
      have X4 := X3.farW FS hgw
      have O4 := O.farW FS (by omega)
      clear FS
      obtain ⟨w4, hw4⟩ : ∃ w4, w4 = w3.setCell ⟨g, 0, none⟩ (.string (s1'.extract 1 s1'.size)) := ⟨_, rfl⟩
      rw [← hw4] at S4 F4 X4 O4
      have h2 := digits_any g (s1'.extract 1 s1'.size) r e1 w4 hs2 hr1 hr2 S4
      rw [hdr] at h2
      have hd2 := (digP_dig (r := r) s1.tail e1).1
      obtain ⟨x2, hx2⟩ : ∃ x2, digP (isDr r) (rdr r) s1.tail e1 = x2 := ⟨_, rfl⟩
      rw [hx2] at h2 hd2
      obtain ⟨d2, ok2, s2, e2⟩ := x2
      obtain ⟨n2, hn2, hn2l⟩ := hd2
      dsimp only at h2 hn2
      subst hn2
      have HE := Lib.hid (frac_slash (mk := mkr) neg hx hh hx2)
      clear hx hx2 hdr hh hs1 hs2
      go_wp2_with fail
      refine (hp _).mono ?_; rintro e' w5 ⟨rfl, rfl⟩
      clear hp
      go_wp2_with fail
      rw [← hw4]
      refine h2.mono ?_; rintro e' w5 ⟨A2, c2, s2', rfl, O2, hs2, S5, F5⟩
      clear h2
      dsimp only at O2 hs2 S5
      have X5 := X4.farW F5 hgw
      have O := O4.farW F5 (by omega)
      have O2 := O2.base_le (show w.heap.size + 1 ≤ w4.heap.size from X4.lt)
      have F6 := F4.trans F5
      clear O4 F5 F4 S4 X4 hw4 S3 F3 X3
      by_cases hd2 : digs n2 = []
      · have hl0 : (digs n2).length = 0 := by rw [hd2]; rfl
        rw [hl0]
        clear hl0 O2
        have k2 := S5.cell 2
        have kf := S5.frozen 2
        cases ok2
        · go_wp2_with fail
          have hE := HE.out
          rw [if_pos hd2, if_neg (by simp)] at hE
          have hR := whole_any neg A c (digs n).length (digs n) w5 rfl O.rw (Nrm_digs n) (by omega)
          have hq : mkr neg (digs n) [1] = rwq ((sgn neg (val (digs n)) : Int) : Rat) := by unfold mkr; rw [whole_val]
          generalize ((sgn neg (val (digs n)) : Int) : Rat) = q at *
          rw [hq] at hE
          replace hE := Lib.hid hE
          clear hq
          go_wp2_with fail
          refine hR.mono ?_; rintro e' w8 ⟨A4, c4, A5, c5, rfl, O4, O5, B8⟩
          clear hR
          have X8 := X5.nx B8
          have Y8 := S5.nx B8
          have G8 := FarW.nx F6 B8 (by have := S5.lt; omega)
          have hb8 : w.heap.size < w5.heap.size := X5.lt
          clear B8
          have m0 := X8.cell 0
          have m1 := X8.cell 1
          have m2 := X8.cell 2
          have f0 := X8.frozen 0
          have f1 := X8.frozen 1
          have f2 := X8.frozen 2
          have X9 := X8.put3 (.bool (qn q)) (.slice A4 (digs (qt q)).length c4) (.slice A5 (digs (qd q)).length c5)
          have Y9 := Y8.wr3 (r := w.heap.size) (by omega) (.bool (qn q)) (.slice A4 (digs (qt q)).length c4) (.slice A5 (digs (qd q)).length c5)
          have G9 := ((G8.far (Nat.le_refl _) (Nat.le_of_lt hgw) 0 (.bool (qn q))).far (Nat.le_refl _) (Nat.le_of_lt hgw) 1 (.slice A4 (digs (qt q)).length c4)).far (Nat.le_refl _) (Nat.le_of_lt hgw) 2 (.slice A5 (digs (qd q)).length c5)
          have Oa := O4.put3 (b := w.heap.size) hb8 (.bool (qn q)) (.slice A4 (digs (qt q)).length c4) (.slice A5 (digs (qd q)).length c5)
          have Ob := O5.put3 (b := w.heap.size) hb8 (.bool (qn q)) (.slice A4 (digs (qt q)).length c4) (.slice A5 (digs (qd q)).length c5)
          have r0 := X9.cell 0
          have r1 := X9.cell 1
          have r2 := X9.cell 2
          unfold wr3 at X9 Y9 Oa Ob r0 r1 r2
          go_wp2_with fail
          refine bodyPost_ret (v := .tuple #[.agg #[.bool (qn q), .slice A4 (digs (qt q)).length c4, .slice A5 (digs (qd q)).length c5], .bool false]) (by simp [results, r0, r1, r2, go_sem]) rfl ?_
          rw [hE.out]
          exact ⟨A4, c4, A5, c5, _, rfl, Oa.base_le (by omega), Ob.base_le (by omega), hs2, Y9, G9⟩
        · by_cases he2 : e2 = 0
          · subst he2
            have S6 := S5.set 2 (.int .i64 3)
            have F7 := F6.set 2 (.int .i64 3)
            have FS := (FarW.refl g w5).set 2 (.int .i64 3)
            have X6 := X5.farW FS hgw
            have O6 := O.farW FS (by omega)
            clear FS k2 kf
            have k2 := S5.cell 2
            have kf := S5.frozen 2
            obtain ⟨w6, hw6⟩ : ∃ w6, w6 = w5.setCell ⟨g, 2, none⟩ (.int .i64 3) := ⟨_, rfl⟩
            rw [← hw6] at S6 F7 X6 O6
            clear O F6 X5 S5
            have hE := HE.out
            rw [if_pos hd2, if_pos ⟨rfl, rfl⟩] at hE
            have hR := whole_any neg A c (digs n).length (digs n) w6 rfl O6.rw (Nrm_digs n) (by omega)
            have hq : mkr neg (digs n) [1] = rwq ((sgn neg (val (digs n)) : Int) : Rat) := by unfold mkr; rw [whole_val]
            generalize ((sgn neg (val (digs n)) : Int) : Rat) = q at *
            rw [hq] at hE
            replace hE := Lib.hid hE
            clear hq
            go_wp2_with fail
            rw [← hw6]
            clear hw6 k2 kf
            refine hR.mono ?_; rintro e' w8 ⟨A4, c4, A5, c5, rfl, O4, O5, B8⟩
            clear hR
            have X8 := X6.nx B8
            have Y8 := S6.nx B8
            have G8 := FarW.nx F7 B8 (by have := S6.lt; omega)
            have hb8 : w.heap.size < w6.heap.size := X6.lt
            clear B8
            have m0 := X8.cell 0
            have m1 := X8.cell 1
            have m2 := X8.cell 2
            have f0 := X8.frozen 0
            have f1 := X8.frozen 1
            have f2 := X8.frozen 2
            have X9 := X8.put3 (.bool (qn q)) (.slice A4 (digs (qt q)).length c4) (.slice A5 (digs (qd q)).length c5)
            have Y9 := Y8.wr3 (r := w.heap.size) (by omega) (.bool (qn q)) (.slice A4 (digs (qt q)).length c4) (.slice A5 (digs (qd q)).length c5)
            have G9 := ((G8.far (Nat.le_refl _) (Nat.le_of_lt hgw) 0 (.bool (qn q))).far (Nat.le_refl _) (Nat.le_of_lt hgw) 1 (.slice A4 (digs (qt q)).length c4)).far (Nat.le_refl _) (Nat.le_of_lt hgw) 2 (.slice A5 (digs (qd q)).length c5)
            have Oa := O4.put3 (b := w.heap.size) hb8 (.bool (qn q)) (.slice A4 (digs (qt q)).length c4) (.slice A5 (digs (qd q)).length c5)
            have Ob := O5.put3 (b := w.heap.size) hb8 (.bool (qn q)) (.slice A4 (digs (qt q)).length c4) (.slice A5 (digs (qd q)).length c5)
            have r0 := X9.cell 0
            have r1 := X9.cell 1
            have r2 := X9.cell 2
            unfold wr3 at X9 Y9 Oa Ob r0 r1 r2
            go_wp2_with fail
            refine bodyPost_ret (v := .tuple #[.agg #[.bool (qn q), .slice A4 (digs (qt q)).length c4, .slice A5 (digs (qd q)).length c5], .bool true]) (by simp [results, r0, r1, r2, go_sem]) rfl ?_
            rw [hE.out]
            exact ⟨A4, c4, A5, c5, _, rfl, Oa.base_le (by omega), Ob.base_le (by omega), hs2, Y9, G9⟩
          · have te : (e2 == 0) = false := beq_eq_false_iff_ne.2 he2
            go_wp2_with fail
            have hE := HE.out
            rw [if_pos hd2, if_neg (by simpa using he2)] at hE
            have hR := whole_any neg A c (digs n).length (digs n) w5 rfl O.rw (Nrm_digs n) (by omega)
            have hq : mkr neg (digs n) [1] = rwq ((sgn neg (val (digs n)) : Int) : Rat) := by unfold mkr; rw [whole_val]
            generalize ((sgn neg (val (digs n)) : Int) : Rat) = q at *
            rw [hq] at hE
            replace hE := Lib.hid hE
            clear hq
            go_wp2_with fail
            refine hR.mono ?_; rintro e' w8 ⟨A4, c4, A5, c5, rfl, O4, O5, B8⟩
            clear hR
            have X8 := X5.nx B8
            have Y8 := S5.nx B8
            have G8 := FarW.nx F6 B8 (by have := S5.lt; omega)
            have hb8 : w.heap.size < w5.heap.size := X5.lt
            clear B8
            have m0 := X8.cell 0
            have m1 := X8.cell 1
            have m2 := X8.cell 2
            have f0 := X8.frozen 0
            have f1 := X8.frozen 1
            have f2 := X8.frozen 2
            have X9 := X8.put3 (.bool (qn q)) (.slice A4 (digs (qt q)).length c4) (.slice A5 (digs (qd q)).length c5)
            have Y9 := Y8.wr3 (r := w.heap.size) (by omega) (.bool (qn q)) (.slice A4 (digs (qt q)).length c4) (.slice A5 (digs (qd q)).length c5)
            have G9 := ((G8.far (Nat.le_refl _) (Nat.le_of_lt hgw) 0 (.bool (qn q))).far (Nat.le_refl _) (Nat.le_of_lt hgw) 1 (.slice A4 (digs (qt q)).length c4)).far (Nat.le_refl _) (Nat.le_of_lt hgw) 2 (.slice A5 (digs (qd q)).length c5)
            have Oa := O4.put3 (b := w.heap.size) hb8 (.bool (qn q)) (.slice A4 (digs (qt q)).length c4) (.slice A5 (digs (qd q)).length c5)
            have Ob := O5.put3 (b := w.heap.size) hb8 (.bool (qn q)) (.slice A4 (digs (qt q)).length c4) (.slice A5 (digs (qd q)).length c5)
            have r0 := X9.cell 0
            have r1 := X9.cell 1
            have r2 := X9.cell 2
            unfold wr3 at X9 Y9 Oa Ob r0 r1 r2
            go_wp2_with fail
            refine bodyPost_ret (v := .tuple #[.agg #[.bool (qn q), .slice A4 (digs (qt q)).length c4, .slice A5 (digs (qd q)).length c5], .bool true]) (by simp [results, r0, r1, r2, go_sem]) rfl ?_
            rw [hE.out]
            exact ⟨A4, c4, A5, c5, _, rfl, Oa.base_le (by omega), Ob.base_le (by omega), hs2, Y9, G9⟩
      · have hlp : ¬ (digs n2).length = 0 := fun h => hd2 (List.eq_nil_of_length_eq_zero h)
        have tl : (((digs n2).length : Int) == 0) = false := beq_eq_false_iff_ne.2 (by omega)
        go_wp2_with fail
        have hE := HE.out
        rw [if_neg hd2] at hE
        have hR := rat_any neg A A2 c c2 (digs n).length (digs n2).length (digs n) (digs n2) w5 rfl rfl O.rw O2.rw (Nrm_digs n) (Nrm_digs n2) (by rw [val_digs]; rintro rfl; exact hd2 digs_zero) (by omega) (by omega)
        have hq : mkr neg (digs n) (digs n2) = rwq (ratN neg (val (digs n)) (val (digs n2))) := rfl
        generalize ratN neg (val (digs n)) (val (digs n2)) = q at *
        rw [hq] at hE
        replace hE := Lib.hid hE
        clear hq
        go_wp2_with fail
        refine hR.mono ?_; rintro e' w8 ⟨A4, c4, A5, c5, rfl, O4, O5, B8⟩
        clear hR
        have X8 := X5.nx B8
        have Y8 := S5.nx B8
        have G8 := FarW.nx F6 B8 (by have := S5.lt; omega)
        have hb8 : w.heap.size < w5.heap.size := X5.lt
        clear B8
        have m0 := X8.cell 0
        have m1 := X8.cell 1
        have m2 := X8.cell 2
        have f0 := X8.frozen 0
        have f1 := X8.frozen 1
        have f2 := X8.frozen 2
        have X9 := X8.put3 (.bool (qn q)) (.slice A4 (digs (qt q)).length c4) (.slice A5 (digs (qd q)).length c5)
        have Y9 := Y8.wr3 (r := w.heap.size) (by omega) (.bool (qn q)) (.slice A4 (digs (qt q)).length c4) (.slice A5 (digs (qd q)).length c5)
        have G9 := ((G8.far (Nat.le_refl _) (Nat.le_of_lt hgw) 0 (.bool (qn q))).far (Nat.le_refl _) (Nat.le_of_lt hgw) 1 (.slice A4 (digs (qt q)).length c4)).far (Nat.le_refl _) (Nat.le_of_lt hgw) 2 (.slice A5 (digs (qd q)).length c5)
        have Oa := O4.put3 (b := w.heap.size) hb8 (.bool (qn q)) (.slice A4 (digs (qt q)).length c4) (.slice A5 (digs (qd q)).length c5)
        have Ob := O5.put3 (b := w.heap.size) hb8 (.bool (qn q)) (.slice A4 (digs (qt q)).length c4) (.slice A5 (digs (qd q)).length c5)
        have r0 := X9.cell 0
        have r1 := X9.cell 1
        have r2 := X9.cell 2
        unfold wr3 at X9 Y9 Oa Ob r0 r1 r2
        go_wp2_with fail
        refine bodyPost_ret (v := .tuple #[.agg #[.bool (qn q), .slice A4 (digs (qt q)).length c4, .slice A5 (digs (qd q)).length c5], .bool ok2]) (by simp [results, r0, r1, r2, go_sem]) rfl ?_
        rw [hE.out]
        exact ⟨A4, c4, A5, c5, _, rfl, Oa.base_le (by omega), Ob.base_le (by omega), hs2, Y9, G9⟩
    · skip
      have HE := Lib.hid (frac_plain (mk := mkr) neg hx (fun h => hh h.2))
      clear hx hsz
      rw [decide_eq_false hh] at hp
      go_wp2_with fail
      refine (hp _).mono ?_; rintro e' w4 ⟨rfl, rfl⟩
      clear hp
      go_wp2_with fail
      have hE := HE.out
      have hR := whole_any neg A c (digs n).length (digs n) w3 rfl O.rw (Nrm_digs n) (by omega)
      have hq : mkr neg (digs n) [1] = rwq ((sgn neg (val (digs n)) : Int) : Rat) := by unfold mkr; rw [whole_val]
      generalize ((sgn neg (val (digs n)) : Int) : Rat) = q at *
      rw [hq] at hE
      replace hE := Lib.hid hE
      clear hq
      go_wp2_with fail
      refine hR.mono ?_; rintro e' w8 ⟨A4, c4, A5, c5, rfl, O4, O5, B8⟩
      clear hR
      have X8 := X3.nx B8
      have Y8 := S3.nx B8
      have G8 := FarW.nx F3 B8 (by have := S3.lt; omega)
      have hb8 : w.heap.size < w3.heap.size := X3.lt
      clear B8
      have m0 := X8.cell 0
      have m1 := X8.cell 1
      have m2 := X8.cell 2
      have f0 := X8.frozen 0
      have f1 := X8.frozen 1
      have f2 := X8.frozen 2
      have X9 := X8.put3 (.bool (qn q)) (.slice A4 (digs (qt q)).length c4) (.slice A5 (digs (qd q)).length c5)
      have Y9 := Y8.wr3 (r := w.heap.size) (by omega) (.bool (qn q)) (.slice A4 (digs (qt q)).length c4) (.slice A5 (digs (qd q)).length c5)
      have G9 := ((G8.far (Nat.le_refl _) (Nat.le_of_lt hgw) 0 (.bool (qn q))).far (Nat.le_refl _) (Nat.le_of_lt hgw) 1 (.slice A4 (digs (qt q)).length c4)).far (Nat.le_refl _) (Nat.le_of_lt hgw) 2 (.slice A5 (digs (qd q)).length c5)
      have Oa := O4.put3 (b := w.heap.size) hb8 (.bool (qn q)) (.slice A4 (digs (qt q)).length c4) (.slice A5 (digs (qd q)).length c5)
      have Ob := O5.put3 (b := w.heap.size) hb8 (.bool (qn q)) (.slice A4 (digs (qt q)).length c4) (.slice A5 (digs (qd q)).length c5)
      have r0 := X9.cell 0
      have r1 := X9.cell 1
      have r2 := X9.cell 2
      unfold wr3 at X9 Y9 Oa Ob r0 r1 r2
      go_wp2_with fail
      refine bodyPost_ret (v := .tuple #[.agg #[.bool (qn q), .slice A4 (digs (qt q)).length c4, .slice A5 (digs (qd q)).length c5], .bool true]) (by simp [results, r0, r1, r2, go_sem]) rfl ?_
      rw [hE.out]
      exact ⟨A4, c4, A5, c5, _, rfl, Oa.base_le (by omega), Ob.base_le (by omega), hs1, Y9, G9⟩
end Go.Proofs.YtbgggepdlkbpoaaGreatDoor
namespace Go.Proofs.YtbgggepdlkbpoaaGreatDoor

/-- a number's bit k, in two's complement -/
def ib (X : Int) (k : Nat) : Bool := if X < 0 then !((-X - 1).toNat.testBit k) else X.toNat.testBit k
theorem ib_far {X : Int} {k : Nat} (h : X.natAbs < 2 ^ k) : ib X k = decide (X < 0) := by
  unfold ib
  by_cases h0 : X < 0
  · rw [if_pos h0, decide_eq_true h0, Nat.testBit_lt_two_pow (by omega)]
    rfl
  · rw [if_neg h0, decide_eq_false h0, Nat.testBit_lt_two_pow (by omega)]
theorem ib_ext {X Y : Int} (h : ∀ k, ib X k = ib Y k) : X = Y := by
  have hs : (X < 0) ↔ (Y < 0) := by
    obtain ⟨k, h1, h2⟩ : ∃ k, X.natAbs < 2 ^ k ∧ Y.natAbs < 2 ^ k := by
      refine ⟨X.natAbs + Y.natAbs, ?_, ?_⟩
      · exact Nat.lt_of_lt_of_le Nat.lt_two_pow_self (Nat.pow_le_pow_right (by omega) (by omega))
      · exact Nat.lt_of_lt_of_le Nat.lt_two_pow_self (Nat.pow_le_pow_right (by omega) (by omega))
    have h3 := h k
    rw [ib_far h1, ib_far h2] at h3
    exact decide_eq_decide.1 h3
  by_cases h0 : X < 0
  · have hy := hs.1 h0
    have e : (-X - 1).toNat = (-Y - 1).toNat := Nat.eq_of_testBit_eq fun k => by
      have h3 := h k
      unfold ib at h3
      rw [if_pos h0, if_pos hy] at h3
      simpa using h3
    omega
  · have hy : ¬ Y < 0 := fun hh => h0 (hs.2 hh)
    have e : X.toNat = Y.toNat := Nat.eq_of_testBit_eq fun k => by
      have h3 := h k
      unfold ib at h3
      rw [if_neg h0, if_neg hy] at h3
      exact h3
    omega
/-- what N bits of two's complement are -/
def tcI (N v : Nat) : Int := if v < 2 ^ (N - 1) then (v : Int) else (v : Int) - (2 ^ N : Nat)
theorem ib_tcI {N v : Nat} (hN : 0 < N) (hv : v < 2 ^ N) (k : Nat) : ib (tcI N v) k = if k < N then v.testBit k else v.testBit (N - 1) := by
  have hP : 2 ^ N = 2 * 2 ^ (N - 1) := by rw [← Nat.pow_succ']; congr 1; omega
  unfold tcI
  by_cases hs : v < 2 ^ (N - 1)
  · rw [if_pos hs]
    unfold ib
    rw [if_neg (by omega), Int.toNat_natCast]
    by_cases hk : k < N
    · rw [if_pos hk]
    · rw [if_neg hk, Nat.testBit_lt_two_pow hs, Nat.testBit_lt_two_pow (Nat.lt_of_lt_of_le hv (Nat.pow_le_pow_right (by omega) (by omega)))]
  · rw [if_neg hs]
    unfold ib
    have e : (-((v : Int) - ((2 ^ N : Nat) : Int)) - 1).toNat = 2 ^ N - (v + 1) := by omega
    rw [if_pos (by omega), e, Nat.testBit_two_pow_sub_succ hv]
    by_cases hk : k < N
    · rw [if_pos hk, decide_eq_true hk]
      simp
    · rw [if_neg hk, decide_eq_false hk]
      have h1 : v.testBit (N - 1) = true := by
        rw [Nat.testBit_eq_decide_div_mod_eq, decide_eq_true_eq]
        have h2 : v / 2 ^ (N - 1) = 1 := Nat.div_eq_of_lt_le (by omega) (by omega)
        rw [h2]
      rw [h1]
      rfl
/-- a number's N lowest bits -/
def lowN (N : Nat) (X : Int) : Nat := (X % ((2 ^ N : Nat) : Int)).toNat
theorem lowN_lt (N : Nat) (X : Int) : lowN N X < 2 ^ N := by
  unfold lowN
  have h1 : 0 < 2 ^ N := Nat.pow_pos (by omega)
  have h2 := Int.emod_lt_of_pos X (show (0 : Int) < ((2 ^ N : Nat) : Int) by omega)
  have h3 := Int.emod_nonneg X (show ((2 ^ N : Nat) : Int) ≠ 0 by omega)
  omega
theorem tcI_low {N : Nat} {X : Int} (hN : 0 < N) (h1 : -((2 ^ (N - 1) : Nat) : Int) ≤ X) (h2 : X < ((2 ^ (N - 1) : Nat) : Int)) : tcI N (lowN N X) = X := by
  have hP : 2 ^ N = 2 * 2 ^ (N - 1) := by rw [← Nat.pow_succ']; congr 1; omega
  unfold tcI lowN
  rw [hP]
  generalize 2 ^ (N - 1) = P at *
  by_cases h0 : X < 0
  · have e : X % ((2 * P : Nat) : Int) = X + ((2 * P : Nat) : Int) := by
      rw [← Int.add_emod_right X, Int.emod_eq_of_lt (by omega) (by omega)]
    rw [e, if_neg (by omega)]
    omega
  · rw [Int.emod_eq_of_lt (by omega) (by omega), if_pos (by omega)]
    omega
theorem low_bit {N : Nat} {X : Int} (hN : 0 < N) (h1 : -((2 ^ (N - 1) : Nat) : Int) ≤ X) (h2 : X < ((2 ^ (N - 1) : Nat) : Int)) {k : Nat} (hk : k < N) : (lowN N X).testBit k = ib X k := by
  have h := ib_tcI hN (lowN_lt N X) k
  rw [tcI_low hN h1 h2, if_pos hk] at h
  exact h.symm
/-- the bits of words -/
theorem val_testBit {l : List Nat} (h : B32 l) (k : Nat) : (val l).testBit k = (wd l (k / 32)).testBit (k % 32) := by
  rw [wd_val h, Wp_eq, show (4294967296 : Nat) = 2 ^ 32 by decide, Nat.testBit_mod_two_pow, Nat.testBit_div_two_pow, decide_eq_true (Nat.mod_lt _ (by omega)), Bool.true_and, Nat.add_comm, Nat.div_add_mod]
/-- numbers of the same bits but the op's -/
def isOp (f : Bool → Bool → Bool) (Z X Y : Int) : Prop := ∀ k, ib Z k = f (ib X k) (ib Y k)
theorem isOp_uniq {f : Bool → Bool → Bool} {Z Z' X Y : Int} (h : isOp f Z X Y) (h' : isOp f Z' X Y) : Z = Z' := ib_ext fun k => (h k).trans (h' k).symm
theorem isOp_row {f : Bool → Bool → Bool} {N v : Nat} {X Y : Int} (hN : 0 < N) (x1 : -((2 ^ (N - 1) : Nat) : Int) ≤ X) (x2 : X < ((2 ^ (N - 1) : Nat) : Int)) (y1 : -((2 ^ (N - 1) : Nat) : Int) ≤ Y) (y2 : Y < ((2 ^ (N - 1) : Nat) : Int))
    (hv : v < 2 ^ N) (h : ∀ k, k < N → v.testBit k = f ((lowN N X).testBit k) ((lowN N Y).testBit k)) : isOp f (tcI N v) X Y := by
  have far : ∀ {Z : Int} {k : Nat}, ¬ k < N → -((2 ^ (N - 1) : Nat) : Int) ≤ Z → Z < ((2 ^ (N - 1) : Nat) : Int) → ib Z k = ib Z (N - 1) := by
    intro Z k hk z1 z2
    have h := ib_tcI hN (lowN_lt N Z) k
    rw [tcI_low hN z1 z2, if_neg hk] at h
    rw [h]
    exact low_bit hN z1 z2 (by omega)
  intro k
  rw [ib_tcI hN hv]
  by_cases hk : k < N
  · rw [if_pos hk, h k hk, low_bit hN x1 x2 hk, low_bit hN y1 y2 hk]
  · rw [if_neg hk, h (N - 1) (by omega), low_bit hN x1 x2 (by omega), low_bit hN y1 y2 (by omega), far hk x1 x2, far hk y1 y2]
/-- minus one, all bits turned -/
theorem ib_not (X : Int) (k : Nat) : ib (-X - 1) k = !(ib X k) := by
  unfold ib
  by_cases h : X < 0
  · rw [if_pos h, if_neg (by omega), Bool.not_not]
  · rw [if_neg h, if_pos (by omega)]
    congr 2
    omega
/-- a words' operation that goes bit by bit -/
def bitOp (g : Nat → Nat → Nat) (f : Bool → Bool → Bool) : Prop := ∀ x y, x < 4294967296 → y < 4294967296 → g x y < 4294967296 ∧ ∀ k, k < 32 → (g x y).testBit k = f (x.testBit k) (y.testBit k)
theorem bitOp_and : bitOp (· &&& ·) (· && ·) := fun _ _ hx _ => ⟨Nat.lt_of_le_of_lt Nat.and_le_left hx, fun _ _ => Nat.testBit_and ..⟩
theorem bitOp_or : bitOp (· ||| ·) (· || ·) := fun _ _ hx hy => ⟨Nat.or_lt_two_pow (n := 32) hx hy, fun _ _ => Nat.testBit_or ..⟩
theorem bitOp_xor : bitOp (· ^^^ ·) (fun p q => p != q) := fun _ _ hx hy => ⟨Nat.xor_lt_two_pow (n := 32) hx hy, fun _ _ => Nat.testBit_xor ..⟩
theorem bitOp_not : bitOp (fun x _ => 4294967295 - x) (fun p _ => !p) := fun x y hx _ => ⟨by show 4294967295 - x < 4294967296; omega, fun k hk => by
  have h := Nat.testBit_two_pow_sub_succ (n := 32) hx k
  rw [decide_eq_true hk, Bool.true_and, show 2 ^ 32 - (x + 1) = 4294967295 - x by omega] at h
  exact h⟩
theorem zip_len {g : Nat → Nat → Nat} {a b : List Nat} (hl : a.length = b.length) : (List.zipWith g a b).length = a.length := by rw [List.length_zipWith]; omega
theorem zip_wd {g : Nat → Nat → Nat} {a b : List Nat} (hl : a.length = b.length) {k : Nat} (hk : k < a.length) : wd (List.zipWith g a b) k = g (wd a k) (wd b k) := by
  have h1 := wd_get? (l := List.zipWith g a b) (k := k) (by rw [zip_len hl]; exact hk)
  rw [List.getElem?_zipWith, wd_get? hk, wd_get? (by omega)] at h1
  exact (Option.some.inj h1).symm
theorem zip_b32 {g : Nat → Nat → Nat} {f : Bool → Bool → Bool} (hg : bitOp g f) {a b : List Nat} (ha : B32 a) (hb : B32 b) : B32 (List.zipWith g a b) := by
  intro x hx
  obtain ⟨i, hi, rfl⟩ := List.getElem_of_mem hx
  rw [List.getElem_zipWith]
  exact (hg _ _ (ha _ (List.getElem_mem _)) (hb _ (List.getElem_mem _))).1
theorem zip_bits {g : Nat → Nat → Nat} {f : Bool → Bool → Bool} (hg : bitOp g f) {a b : List Nat} (ha : B32 a) (hb : B32 b) (hl : a.length = b.length) {k : Nat} (hk : k < 32 * a.length) :
    (val (List.zipWith g a b)).testBit k = f ((val a).testBit k) ((val b).testBit k) := by
  rw [val_testBit (zip_b32 hg ha hb), val_testBit ha, val_testBit hb, zip_wd hl (by omega)]
  exact (hg _ _ (wd_lt ha _) (wd_lt hb _)).2 _ (Nat.mod_lt _ (by omega))
/-- an operation on rows of n words is the operation on the numbers -/
theorem row_op {g : Nat → Nat → Nat} {f : Bool → Bool → Bool} (hg : bitOp g f) {a b : List Nat} {n : Nat} {X Y : Int} (ha : B32 a) (hb : B32 b) (la : a.length = n) (lb : b.length = n) (hn : 0 < n) (va : val a = lowN (32 * n) X) (vb : val b = lowN (32 * n) Y)
    (x1 : -((2 ^ (32 * n - 1) : Nat) : Int) ≤ X) (x2 : X < ((2 ^ (32 * n - 1) : Nat) : Int)) (y1 : -((2 ^ (32 * n - 1) : Nat) : Int) ≤ Y) (y2 : Y < ((2 ^ (32 * n - 1) : Nat) : Int)) : isOp f (tcI (32 * n) (val (List.zipWith g a b))) X Y := by
  refine isOp_row (by omega) x1 x2 y1 y2 ?_ (fun k hk => ?_)
  · have h := val_lt (zip_b32 hg ha hb)
    rw [zip_len (by omega), la, Wp_eq] at h
    exact h
  · rw [← va, ← vb]
    exact zip_bits hg ha hb (by omega) (by omega)
/-- the n lowest words of a number -/
def wordsN (n v : Nat) : List Nat := (List.range n).map fun i => v / Wp i % 4294967296
theorem wordsN_len (n v : Nat) : (wordsN n v).length = n := by simp [wordsN]
theorem wordsN_wd {n v k : Nat} (h : k < n) : wd (wordsN n v) k = v / Wp k % 4294967296 := by
  have h1 := wd_get? (l := wordsN n v) (k := k) (by rw [wordsN_len]; exact h)
  unfold wordsN at h1
  rw [List.getElem?_map, List.getElem?_range h] at h1
  exact (Option.some.inj h1).symm
theorem wordsN_b32 (n v : Nat) : B32 (wordsN n v) := by
  intro x hx
  obtain ⟨i, _, rfl⟩ := List.mem_map.1 hx
  exact Nat.mod_lt _ (by omega)
theorem wordsN_val {n v : Nat} (h : v < Wp n) : val (wordsN n v) = v := by
  refine Nat.eq_of_testBit_eq fun k => ?_
  rw [val_testBit (wordsN_b32 n v)]
  by_cases hk : k / 32 < n
  · rw [wordsN_wd hk, Wp_eq, show (4294967296 : Nat) = 2 ^ 32 by decide, Nat.testBit_mod_two_pow, Nat.testBit_div_two_pow, decide_eq_true (Nat.mod_lt _ (by omega)), Bool.true_and, Nat.add_comm, Nat.div_add_mod]
  · rw [wd_out (by rw [wordsN_len]; omega), Nat.zero_testBit]
    rw [Wp_eq] at h
    exact (Nat.testBit_lt_two_pow (Nat.lt_of_lt_of_le h (Nat.pow_le_pow_right (by omega) (by omega)))).symm
/-- a list of n words is the words of its number -/
theorem wordsN_of {l : List Nat} (h : B32 l) : wordsN l.length (val l) = l :=
  wd_ext (wordsN_len ..) fun k hk => by
    rw [wordsN_len] at hk
    rw [wordsN_wd hk, wd_val h]
/-- a number's row of n words -/
def rowI (n : Nat) (X : Int) : List Nat := wordsN n (lowN (32 * n) X)
theorem rowI_len (n : Nat) (X : Int) : (rowI n X).length = n := wordsN_len ..
theorem rowI_b32 (n : Nat) (X : Int) : B32 (rowI n X) := wordsN_b32 _ _
theorem rowI_val (n : Nat) (X : Int) : val (rowI n X) = lowN (32 * n) X := wordsN_val (by rw [Wp_eq]; exact lowN_lt _ _)
/-- does a number fit n words with its sign? -/
theorem fits_row {X : Int} {n : Nat} (h : (digs X.natAbs).length < n) : -((2 ^ (32 * n - 1) : Nat) : Int) ≤ X ∧ X < ((2 ^ (32 * n - 1) : Nat) : Int) := by
  have h1 := digs_len_le.1 (Nat.le_refl (digs X.natAbs).length)
  rw [Wp_eq] at h1
  have h2 : 2 ^ (32 * (digs X.natAbs).length) ≤ 2 ^ (32 * n - 1) := Nat.pow_le_pow_right (by omega) (by omega)
  omega
/-- two numbers' operation, by rows of n words -/
def rowOp (g : Nat → Nat → Nat) (n : Nat) (X Y : Int) : Int := tcI (32 * n) (val (List.zipWith g (rowI n X) (rowI n Y)))
theorem rowOp_is {g : Nat → Nat → Nat} {f : Bool → Bool → Bool} (hg : bitOp g f) {n : Nat} {X Y : Int} (hx : (digs X.natAbs).length < n) (hy : (digs Y.natAbs).length < n) : isOp f (rowOp g n X Y) X Y :=
  row_op hg (rowI_b32 _ _) (rowI_b32 _ _) (rowI_len ..) (rowI_len ..) (by omega) (rowI_val ..) (rowI_val ..) (fits_row hx).1 (fits_row hx).2 (fits_row hy).1 (fits_row hy).2
theorem rowOp_any {g : Nat → Nat → Nat} {f : Bool → Bool → Bool} (hg : bitOp g f) {n m : Nat} {X Y : Int} (hx : (digs X.natAbs).length < n) (hy : (digs Y.natAbs).length < n) (hx' : (digs X.natAbs).length < m) (hy' : (digs Y.natAbs).length < m) : rowOp g n X Y = rowOp g m X Y :=
  isOp_uniq (rowOp_is hg hx hy) (rowOp_is hg hx' hy')
theorem rowOp_not {n : Nat} {X Y : Int} (hx : (digs X.natAbs).length < n) (hy : (digs Y.natAbs).length < n) : rowOp (fun x _ => 4294967295 - x) n X Y = -X - 1 :=
  ib_ext fun k => by rw [rowOp_is bitOp_not hx hy k, ib_not]
/-- minus a row -/
theorem low_neg {N v : Nat} {X : Int} (h : lowN N X = v) : lowN N (-X) = (2 ^ N - v) % 2 ^ N := by
  have hp : 0 < 2 ^ N := Nat.pow_pos (by omega)
  have hv : v < 2 ^ N := by rw [← h]; exact lowN_lt _ _
  unfold lowN at h ⊢
  have h0 := Int.emod_nonneg X (show ((2 ^ N : Nat) : Int) ≠ 0 by omega)
  have e : X % ((2 ^ N : Nat) : Int) = (v : Int) := by omega
  have e2 : (-X) % ((2 ^ N : Nat) : Int) = (((2 ^ N - v : Nat) : Int)) % ((2 ^ N : Nat) : Int) := by
    have h1 := Int.mul_ediv_add_emod X ((2 ^ N : Nat) : Int)
    rw [e] at h1
    generalize X / ((2 ^ N : Nat) : Int) = q at h1
    have h2 : -X = ((2 ^ N - v : Nat) : Int) + ((2 ^ N : Nat) : Int) * (-q - 1) := by
      rw [Int.mul_sub, Int.mul_neg, ← h1]
      omega
    rw [h2, Int.add_mul_emod_self_left]
  rw [e2, ← Int.natCast_emod, Int.toNat_natCast]
/-- minus a row, word by word: a word turned, and what is carried -/
theorem turn_step {l o : List Nat} {k c : Nat} (hk : k < l.length) (hlen : o.length = l.length) (hb : B32 l) (hc : c ≤ 1) (h : val (o.take k) + c * Wp k + val (l.take k) = Wp k) :
    val ((o.set k (addf (4294967295 - wd l k) 0 c)).take (k + 1)) + addc (4294967295 - wd l k) 0 c * Wp (k + 1) + val (l.take (k + 1)) = Wp (k + 1) ∧ addc (4294967295 - wd l k) 0 c ≤ 1 := by
  have hx := wd_lt hb k
  rw [val_take_set (by omega), val_take_succ hk, Wp_succ]
  unfold addf addc
  generalize wd l k = x at *
  generalize val (o.take k) = p at *
  generalize val (l.take k) = q at *
  generalize Wp k = P at *
  obtain ⟨a, ha⟩ : ∃ a, 4294967295 - x + 0 + c = a := ⟨_, rfl⟩
  rw [ha]
  have h1 : a % 4294967296 * P + a / 4294967296 * (4294967296 * P) = a * P := by
    rw [← Nat.mul_assoc, ← Nat.add_mul, Nat.mul_comm (a / 4294967296), Nat.mod_add_div]
  have h2 : a * P + x * P + P = 4294967296 * P + c * P := by
    have e : a + x + 1 = 4294967296 + c := by omega
    rw [← Nat.add_mul, ← Nat.add_mul, ← e, Nat.add_mul _ 1, Nat.one_mul, Nat.add_mul]
  exact ⟨by omega, by omega⟩
theorem turn_all {l o : List Nat} {c : Nat} (hlen : o.length = l.length) (h : val (o.take l.length) + c * Wp l.length + val (l.take l.length) = Wp l.length) (hc : c ≤ 1) (ho : B32 o) : o = wordsN l.length ((Wp l.length - val l) % Wp l.length) := by
  rw [val_take_all (by omega), val_take_all (Nat.le_refl _)] at h
  have h1 := val_lt ho
  rw [hlen] at h1
  have e : (Wp l.length - val l) % Wp l.length = val o := by
    generalize Wp l.length = P at *
    rcases Nat.le_one_iff_eq_zero_or_eq_one.1 hc with rfl | rfl
    · rw [show P - val l = val o by omega, Nat.mod_eq_of_lt h1]
    · rw [show val l = 0 by omega, Nat.sub_zero, Nat.mod_self]
      omega
  rw [e, ← hlen]
  exact (wordsN_of ho).symm
/-- minus a number's row is minus the number's row -/
theorem turn_row (n : Nat) (X : Int) : wordsN n ((Wp n - val (rowI n X)) % Wp n) = rowI n (-X) := by
  unfold rowI
  rw [low_neg rfl, show val (wordsN n (lowN (32 * n) X)) = lowN (32 * n) X from rowI_val n X, Wp_eq]
/-- all words turned -/
theorem map_not_val : ∀ {l : List Nat}, B32 l → val (l.map fun x => 4294967295 - x) + val l + 1 = Wp l.length
  | [], _ => rfl
  | x :: l, h => by
    have ih := map_not_val (l := l) (fun y hy => h y (List.mem_cons_of_mem _ hy))
    have hx := h x List.mem_cons_self
    rw [List.map_cons, List.length_cons, Wp_succ, ← ih]
    show 4294967295 - x + 4294967296 * val (l.map fun x => 4294967295 - x) + (x + 4294967296 * val l) + 1 = _
    omega
theorem low_not (N : Nat) (X : Int) : lowN N (-X - 1) = 2 ^ N - 1 - lowN N X := by
  have hp : 0 < 2 ^ N := Nat.pow_pos (by omega)
  have hv := lowN_lt N X
  have h0 := Int.emod_nonneg X (show ((2 ^ N : Nat) : Int) ≠ 0 by omega)
  unfold lowN at hv ⊢
  have h1 := Int.mul_ediv_add_emod X ((2 ^ N : Nat) : Int)
  generalize X / ((2 ^ N : Nat) : Int) = q at h1
  obtain ⟨v, hw⟩ : ∃ v : Nat, X % ((2 ^ N : Nat) : Int) = (v : Int) := ⟨(X % ((2 ^ N : Nat) : Int)).toNat, by omega⟩
  rw [hw] at h1 hv ⊢
  rw [Int.toNat_natCast] at hv ⊢
  have h2 : -X - 1 = ((2 ^ N - 1 - v : Nat) : Int) + ((2 ^ N : Nat) : Int) * (-q - 1) := by
    rw [Int.mul_sub, Int.mul_neg, ← h1]
    omega
  rw [h2, Int.add_mul_emod_self_left, ← Int.natCast_emod, Int.toNat_natCast, Nat.mod_eq_of_lt (by omega)]
theorem rowI_not (n : Nat) (X : Int) : rowI n (-X - 1) = (rowI n X).map (fun x => 4294967295 - x) := by
  have hb : B32 ((rowI n X).map (fun x => 4294967295 - x)) := by
    intro y hy
    obtain ⟨x, _, rfl⟩ := List.mem_map.1 hy
    omega
  have h1 := map_not_val (rowI_b32 n X)
  have h2 := wordsN_of hb
  rw [List.length_map, rowI_len] at h2
  rw [rowI_len, rowI_val] at h1
  rw [← h2]
  unfold rowI
  rw [low_not]
  congr 1
  have h3 := lowN_lt (32 * n) X
  rw [← Wp_eq] at h3 ⊢
  unfold rowI at h1
  omega
/-- a row's sign is its highest bit -/
theorem top_sign {l : List Nat} (hb : B32 l) (hl : 0 < l.length) : (wd l (l.length - 1) / 2147483648 = 1 ∧ 2 ^ (32 * l.length - 1) ≤ val l) ∨ (wd l (l.length - 1) / 2147483648 = 0 ∧ val l < 2 ^ (32 * l.length - 1)) := by
  have h1 := val_take_succ (l := l) (k := l.length - 1) (by omega)
  rw [show l.length - 1 + 1 = l.length by omega, List.take_length] at h1
  have h2 := val_take_lt hb (l.length - 1)
  have h3 := wd_lt hb (l.length - 1)
  have h4 : 2 ^ (32 * l.length - 1) = 2147483648 * Wp (l.length - 1) := by
    rw [Wp_eq, show (2147483648 : Nat) = 2 ^ 31 by decide, ← Nat.pow_add]
    congr 1
    omega
  rw [h4, h1]
  generalize wd l (l.length - 1) = t at *
  generalize val (l.take (l.length - 1)) = p at *
  generalize Wp (l.length - 1) = P at *
  by_cases ht : 2147483648 ≤ t
  · refine Or.inl ⟨by omega, ?_⟩
    have := Nat.mul_le_mul_right P ht
    omega
  · refine Or.inr ⟨by omega, ?_⟩
    have := Nat.mul_le_mul_right P (show t + 1 ≤ 2147483648 by omega)
    rw [Nat.add_mul, Nat.one_mul] at this
    omega
end Go.Proofs.YtbgggepdlkbpoaaGreatDoor
