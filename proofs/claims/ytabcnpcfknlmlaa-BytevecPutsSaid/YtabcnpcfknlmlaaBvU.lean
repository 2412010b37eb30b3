/- Walks: SameBytes, Put of bytevec's reference. -/
import Derived.Test.YtabcnpcfknlmlaaBvT
namespace Go.Proofs.Ytabcnpcfknlmlaa
open Go.RowKit

theorem sameb_step {a b : List UInt8} {j : Nat} (hj : j < a.length) (hl : a.length = b.length) (hd : a.take j = b.take j) (h : bg a j = bg b j) : a.take (j + 1) = b.take (j + 1) := by
  rw [take_bg hj, take_bg (by omega : j < b.length), hd, h]

set_option maxHeartbeats 1000000 in
theorem rsameB_any (A D : Option Addr) (c d n m : Nat) (a b : List UInt8) (w : World) (hn : n = a.length) (hm : m = b.length) (ha : RB w w.heap.size A c a) (hb : RB w w.heap.size D d b) :
    Calls Try.prog 14 #[.slice A n c, .slice D m d] w fun e w' => e = .returned (.bool (decide (a = b))) ∧ ∃ q, w' = w.drewN q := by
  subst hn hm
  have hba := ha.big
  have hbb := hb.big
  by_cases hlen : a.length = b.length
  · have hl1 : ((a.length : Int) != (b.length : Int)) = false := by simp; omega
    have HL := Lib.hid hlen
    have hlt : ¬ a.length < b.length := by omega
    have hgt : ¬ b.length < a.length := by omega
    clear hlen
    go_enter Try.func14, Try.ntmps14
    go_wp2
    go_loopw [5] (fun i wr => ∃ k : Nat, k ≤ a.length ∧ i = .int .i64 (k : Int) ∧ Hid (a.take k = b.take k) ∧ ∃ q, wr = w.drewN q) (fun i _ => (a.length - intOf i).toNat)
    case atStart => exact ⟨0, Nat.zero_le _, rfl, rfl, 0, rfl⟩
    case round =>
      obtain ⟨k, hk, rfl, hk2, q, rfl⟩ := hrel
      by_cases h0 : k < a.length
      · obtain ⟨b1, o1, rfl, _, hx⟩ := ha.at_ (by omega)
        obtain ⟨b2, o2, rfl, _, hy⟩ := hb.at_ (by omega)
        have hxk := hx k _ (bg_get? (by omega))
        have hyk := hy k _ (bg_get? (by omega))
        simp only [f8] at hxk hyk
        clear ha hb hx hy
        by_cases h1 : bg a k = bg b k
        · have t1 : (((bg a k).toNat : Int) != ((bg b k).toNat : Int)) = false := by rw [h1]; simp
          have HR := Lib.hid (sameb_step h0 HL.out hk2.out h1)
          clear h1
          go_wp2
          go_quiet (fail)
          go_wp2
          go_roundw
          case rel => exact ⟨k + 1, by omega, by go_num, HR, _, rfl⟩
          case measure => simp [intOf]; omega
        · have h2 : (bg a k).toNat ≠ (bg b k).toNat := fun e => h1 (UInt8.toNat_inj.1 e)
          have t1 : (((bg a k).toNat : Int) != ((bg b k).toNat : Int)) = true := by simp; omega
          have H1 := Lib.hid h1
          clear h1 h2
          go_wp2
          go_quiet (fail)
          go_wp2
          go_ret
          refine ⟨ret_bool ?_, drw _ _⟩
          rw [decide_eq_false (fun e => H1.out (by rw [e]))]
      · obtain rfl : k = a.length := by omega
        go_wp2
        go_ret
        refine ⟨?_, q, rfl⟩
        have h2 := hk2.out
        rw [List.take_length, HL.out, List.take_length] at h2
        exact ret_bool (by rw [decide_eq_true h2])
  · have hl1 : ((a.length : Int) != (b.length : Int)) = true := by simp; omega
    go_enter Try.func14, Try.ntmps14
    go_wp2
    go_ret
    exact ⟨ret_bool (by rw [decide_eq_false (fun e => hlen (by rw [e]))]), 0, rfl⟩


set_option maxRecDepth 100000 in
set_option maxHeartbeats 8000000 in
theorem rput_any (A : Option Addr) (c n : Nat) (l : List UInt8) (at_ size : Int) (big signed : Bool) (V : Value) (r i : Rw) (w : World) (hn : n = l.length) (h : RB w w.heap.size A c l) (hV : VN w w.heap.size V r i)
    (a0 : -9223372036854775808 ≤ at_) (a1' : at_ ≤ 9223372036854775807) (s0 : -9223372036854775808 ≤ size) (s1' : size ≤ 9223372036854775807) :
    Calls Try.prog 13 #[.slice A n c, .int .i64 at_, .int .i64 size, .bool big, .bool signed, V] w (RetBE w (putA l at_ size big signed r i)) := by
  subst hn
  have hbig := h.big
  obtain ⟨A1, c1, D1, d1, A2, c2, D2, d2, rfl, p1, p2, p3, p4⟩ := hV
  have Ha : VN w w.heap.size (.agg #[.bool r.s, .slice A1 r.a.length c1, .slice D1 r.b.length d1, .bool i.s, .slice A2 i.a.length c2, .slice D2 i.b.length d2]) r i := ⟨A1, c1, D1, d1, A2, c2, D2, d2, rfl, p1, p2, p3, p4⟩
  have B1 := bal w (.cells #[.bool r.s, .slice A1 r.a.length c1, .slice D1 r.b.length d1, .bool i.s, .slice A2 i.a.length c2, .slice D2 i.b.length d2] 27)
  have S1 := SB.new w [.bool r.s, .slice A1 r.a.length c1, .slice D1 r.b.length d1, .bool i.s, .slice A2 i.a.length c2, .slice D2 i.b.length d2] 27
  have hin := fun w' => rin_any l.length at_ size w' hbig a0 a1' s0 s1'
  clear p1 p2 p3 p4
  unfold putA
  cases hi : inB l.length at_ size with
  | false =>
    rw [hi] at hin
    rw [if_neg (by simp)]
    clear hi
    go_enter Try.func13, Try.ntmps13
    go_wp2_with fail
    refine (hin _).mono ?_; rintro e w' ⟨rfl, rfl⟩
    go_wp2_with fail
    go_ret2
    exact retBE_nil 1 B1
  | true =>
    rw [hi] at hin
    unfold inB at hi
    rw [decide_eq_true_eq] at hi
    obtain ⟨a, rfl⟩ := Int.eq_ofNat_of_zero_le hi.2.2.1
    obtain ⟨s, rfl⟩ := Int.eq_ofNat_of_zero_le (show 0 ≤ size by omega)
    obtain ⟨i1, i2, _, i4⟩ := hi
    rw [Int.toNat_natCast, Int.toNat_natCast, if_pos rfl]
    have hsl : a + s ≤ l.length := by omega
    have hs1 : 1 ≤ s := by omega
    have hs64 : s ≤ 64 := by omega
    clear i1 i2 i4
    have hone := fun V w' h => rone_any s big signed V r i w' hs1 hs64 h
    have hol := oneA_len (s := s) (big := big) (signed := signed) (r := r) (i := i)
    generalize oneA s big signed r i = x at *
    obtain ⟨cb, k⟩ := x
    dsimp only at hol ⊢
    have m0 := S1.cell 0
    have m1 := S1.cell 1
    have m2 := S1.cell 2
    have m3 := S1.cell 3
    have m4 := S1.cell 4
    have m5 := S1.cell 5
    by_cases hk : k = 0
    · subst hk
      have hcl := hol rfl
      rw [if_pos rfl]
      have HCL := Lib.hid hcl
      obtain ⟨b', off', rfl, hlt, hx⟩ := RM.at_ h (by omega)
      have hT : RB w w.heap.size (some ⟨b', off', none⟩) c (l.take a) := RM.take h a
      have hD := RB_sub h (a + s) (l.length - (a + s)) (by omega)
      rw [show (l.drop (a + s)).take (l.length - (a + s)) = l.drop (a + s) from List.take_of_length_le (by rw [List.length_drop]; exact Nat.le_refl _)] at hD
      have hta : (l.take a).length = a := by rw [List.length_take]; omega
      have hdl : (l.drop (a + s)).length = l.length - (a + s) := List.length_drop
      have ew : IntKind.i64.wrap ((a : Int) + (s : Int)) = (a : Int) + (s : Int) := IntWalk.i64_in _ (by omega)
      have hlc := h.lc
      have hP : putL l cb a = l.take a ++ (cb ++ l.drop (a + s)) := by unfold putL; rw [hcl]
      rw [hP]
      generalize l.take a = LT at *
      generalize l.drop (a + s) = LD at *
      have hTl := Lib.hid hta
      have hDl := Lib.hid hdl
      clear hol hcl hx hP hta hdl
      go_enter Try.func13, Try.ntmps13
      go_wp2_with fail
      refine (hin _).mono ?_; rintro e w' ⟨rfl, rfl⟩
      go_wp2_with fail
      refine (hone _ _ (Ha.st B1)).mono ?_; rintro e w3 ⟨A3, c3, rfl, O3, B3⟩
      dsimp only at O3
      have C3 := bt B1 B3
      have hT3 := RM.step hT C3 C3.size
      have hD3 := RM.step hD C3 C3.size
      have Ba := bal w3 (.cells #[] 5)
      go_upto_region 7 with (at_builtin; refine wp_appB _ rfl _ _ rfl w3.heap.size _ _ _ [] rfl rfl (OB.empty w3) _ _ _ LT rfl hTl.out.symm _ (RM.step hT3 Ba Ba.size) (by rw [hTl.out]; simp; omega) (by simp) ?_; intro A6 c6 w6 O6 g6 B6)
      have C6 := Ba.trans B6
      go_upto_region 8 with (at_builtin; refine wp_appB _ rfl _ _ rfl w3.heap.size _ _ _ ([] ++ LT) rfl rfl O6 _ _ _ cb rfl rfl _ (RM.step (OM.rl O3) C6 C6.size) (by have := HCL.out; have := hTl.out; simp; omega) C6.size ?_; intro A7 c7 w7 O7 g7 B7)
      have C7 := C6.trans B7
      by_cases hck : c = a + s
      · have hL0 : LD = [] := List.eq_nil_of_length_eq_zero (by rw [hDl.out]; omega)
        go_wp2_with (at_builtin; refine wp_appB _ rfl _ _ rfl w3.heap.size _ _ _ ([] ++ LT ++ cb) rfl (by simp) O7 _ _ _ LD rfl hDl.out.symm w7.heap.size (by rw [hL0]; exact RM.nil _ _ _ _ _) (by have := HCL.out; have := hTl.out; have := hDl.out; simp; omega) C7.size ?_; intro A8 c8 w8 O8 g8 B8)
        go_ret2
        have C8 := C7.trans B8
        have e : [] ++ LT ++ cb ++ LD = LT ++ (cb ++ LD) := by simp
        rw [e] at O8
        exact ⟨A8, c8, by rw [show (LT ++ (cb ++ LD)).length = LT.length + cb.length by rw [hL0]; simp]; rfl, OM.base_le O8 C3.size, C3.trans (C8.mono C3.size)⟩
      · go_wp2_with (at_builtin; refine wp_appB _ rfl _ _ rfl w3.heap.size _ _ _ ([] ++ LT ++ cb) rfl (by simp) O7 _ _ _ LD rfl hDl.out.symm _ (RM.step hD3 C7 C7.size) (by have := HCL.out; have := hTl.out; have := hDl.out; simp; omega) C7.size ?_; intro A8 c8 w8 O8 g8 B8)
        go_ret2
        have C8 := C7.trans B8
        have e : [] ++ LT ++ cb ++ LD = LT ++ (cb ++ LD) := by simp
        rw [e] at O8
        exact ⟨A8, c8, by rw [show (LT ++ (cb ++ LD)).length = LT.length + (cb.length + LD.length) by simp]; rfl, OM.base_le O8 C3.size, C3.trans (C8.mono C3.size)⟩
    · have hkb : (k == 0) = false := beq_eq_false_iff_ne.2 hk
      rw [if_neg hk]
      clear hol hk
      go_enter Try.func13, Try.ntmps13
      go_wp2_with fail
      refine (hin _).mono ?_; rintro e w' ⟨rfl, rfl⟩
      go_wp2_with fail
      refine (hone _ _ (Ha.st B1)).mono ?_; rintro e w3 ⟨A3, c3, rfl, O3, B3⟩
      go_wp2_with fail
      go_ret2
      exact retBE_nil k (bt B1 B3)

end Go.Proofs.Ytabcnpcfknlmlaa
