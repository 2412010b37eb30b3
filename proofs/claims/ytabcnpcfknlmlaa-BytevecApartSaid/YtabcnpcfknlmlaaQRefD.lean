/- The walks of the reference's odd, Divisor, Gcd, Div. -/
import Derived.Test.YtabcnpcfknlmlaaNRefO
import Derived.Test.YtabcnpcfknlmlaaRat
import Derived.Test.YtabcnpcfknlmlaaPlainI
namespace Go.Proofs.Ytabcnpcfknlmlaa
open Go.RowKit


def RetO (w : World) (N : Nat) (e : Ending) (w' : World) : Prop := ∃ k, oddp N k ∧ RetW w (N / 2 ^ k) e w'
theorem bit_eq0 {n k : Nat} (h : bitN n k = 0) : ((bitN n k : Int) == 0) = true := by rw [h]; rfl
theorem bit_ne0 {n k : Nat} (h : bitN n k ≠ 0) : ((bitN n k : Int) == 0) = false := beq_eq_false_iff_ne.2 (by omega)

set_option maxHeartbeats 1000000 in
theorem rodd_any (A : Option Addr) (c n : Nat) (a : List Nat) (w : World) (hn : n = a.length) (ha : RW w w.heap.size A c a) (h0 : val a ≠ 0) (hla : a.length ≤ 30000) :
    Calls Try.prog 86 #[.slice A n c] w (RetO w (val a)) := by
  subst hn
  have hbl : blen (val a) ≤ 32 * a.length := blen_le.2 (val_lt2 ha.b32)
  have hbit := fun k hk => bit_any A c _ a w ((k : Nat) : Int) k rfl hk rfl ha
  have hdn := fun k hk => rdown_any A c _ a w k hk rfl ha (by omega)
  clear ha
  generalize val a = N at *
  go_enter Try.func86, Try.ntmps86
  go_wp2
  go_loop [3] (fun v => ∃ k : Nat, v = .int .i64 k ∧ k < blen N ∧ Hid (2 ^ k ∣ N)) (fun i => blen N - (intOf i).toNat)
  case atStart =>
    have h1 : 2 ^ 0 ∣ N := by rw [Nat.pow_zero]; exact Nat.one_dvd _
    exact ⟨0, by go_num, bit_some h0 h1, h1⟩
  case round =>
    obtain ⟨k, rfl, hk, hd⟩ := hrel
    have h1 := hbit k (by omega)
    have h2 := hdn k (by omega)
    clear hbit hdn
    by_cases hz : bitN N k = 0
    · have t0 := bit_eq0 hz
      have hd2 := bit_zero_dvd hd.out hz
      have hk2 := bit_some h0 hd2
      have HD2 := Lib.hid hd2
      clear hd2 hz
      go_wp2_with fail
      refine h1.mono ?_; rintro e w' ⟨rfl, rfl⟩
      go_wp2_with fail
      go_round
      case rel => exact ⟨k + 1, by go_num, hk2, HD2⟩
      case measure => simp [intOf]; omega
    · have t0 := bit_ne0 hz
      have HO := Lib.hid (oddp_bit hd.out hz)
      clear hz
      go_wp2_with fail
      refine h1.mono ?_; rintro e w' ⟨rfl, rfl⟩
      go_wp2_with fail
      refine h2.mono ?_; rintro e w2 ⟨A2, c2, rfl, O2, B2⟩
      go_wp2_with fail
      go_ret
      exact ⟨k, HO.out, A2, c2, rfl, O2, B2⟩

theorem blen_one_iff {x : Nat} (h : 0 < x) : blen x = 1 ↔ x = 1 := by
  have h1 := blen_le (n := x) (k := 1)
  have h2 := blen_pos (show x ≠ 0 by omega)
  constructor
  · intro h3; have := h1.1 (by omega); omega
  · intro h3; have := h1.2 (by omega); omega
theorem gcd_swap {a b k : Nat} (hb : b % 2 = 1) (h : b ≤ a) (ho : oddp (a - b) k) : Nat.gcd ((a - b) / 2 ^ k) b = Nat.gcd b a := by rw [gcd_sub hb h ho, Nat.gcd_comm]

set_option maxRecDepth 100000 in
set_option maxHeartbeats 8000000 in
theorem rdivisor_any (A D : Option Addr) (c d n m : Nat) (a b : List Nat) (w : World) (hn : n = a.length) (hm : m = b.length) (ha : RW w w.heap.size A c a) (hb : RW w w.heap.size D d b) (na : Nrm a) (nb : Nrm b)
    (hla : a.length ≤ 15000) (hlb : b.length ≤ 15000) :
    Calls Try.prog 76 #[.slice A n c, .slice D m d] w (RetW w (Nat.gcd (val a) (val b))) := by
  subst hn hm
  by_cases la0 : a.length = 0
  · have ta : ((a.length : Int) == 0) = true := by rw [la0]; rfl
    have ea : Nat.gcd (val a) (val b) = val b := by rw [List.eq_nil_of_length_eq_zero la0, show val [] = 0 from rfl, Nat.gcd_zero_left]
    have hnm := rnorm_any D d _ b w rfl hb
    rw [← ea] at hnm
    clear ea la0 ha hb
    go_enter Try.func76, Try.ntmps76
    go_wp2_with fail
    refine hnm.mono ?_; rintro e w2 ⟨A2, c2, rfl, O2, B2⟩
    go_wp2_with fail
    go_ret
    exact ⟨A2, c2, rfl, O2, B2⟩
  have ta : ((a.length : Int) == 0) = false := beq_eq_false_iff_ne.2 (by omega)
  by_cases lb0 : b.length = 0
  · have tb : ((b.length : Int) == 0) = true := by rw [lb0]; rfl
    have ea : Nat.gcd (val a) (val b) = val a := by rw [List.eq_nil_of_length_eq_zero lb0, show val [] = 0 from rfl, Nat.gcd_zero_right]
    have hnm := rnorm_any A c _ a w rfl ha
    rw [← ea] at hnm
    clear ea lb0 ha hb
    go_enter Try.func76, Try.ntmps76
    go_wp2_with fail
    refine hnm.mono ?_; rintro e w2 ⟨A2, c2, rfl, O2, B2⟩
    go_wp2_with fail
    go_ret
    exact ⟨A2, c2, rfl, O2, B2⟩
  have tb : ((b.length : Int) == 0) = false := beq_eq_false_iff_ne.2 (by omega)
  have va0 := nrm_pos na ha.b32 (by omega)
  have vb0 := nrm_pos nb hb.b32 (by omega)
  have hbl : blen (val a) ≤ 32 * a.length := blen_le.2 (val_lt2 ha.b32)
  have hba := fun k hk => bit_any A c _ a w ((k : Nat) : Int) k rfl hk rfl ha
  have hbb := fun k hk => bit_any D d _ b w ((k : Nat) : Int) k rfl hk rfl hb
  have hoa := rodd_any A c _ a w rfl ha va0 (by omega)
  have hob := fun w' h => rodd_any D d _ b w' rfl h vb0 (by omega)
  have hva : val a < Wp 15000 := Nat.lt_of_lt_of_le (val_lt ha.b32) (Wp_mono hla)
  have hvb : val b < Wp 15000 := Nat.lt_of_lt_of_le (val_lt hb.b32) (Wp_mono hlb)
  generalize val a = N at *
  generalize val b = M at *
  have HB := Lib.hid hb
  have HVA := Lib.hid hva
  have HVB := Lib.hid hvb
  clear ha hb hva hvb la0 lb0 na nb
  go_enter Try.func76, Try.ntmps76
  go_wp2_with fail
  go_loop [5] (fun v => ∃ t : Nat, v = .int .i64 t ∧ t < blen N ∧ Hid (2 ^ t ∣ N) ∧ Hid (2 ^ t ∣ M)) (fun i => blen N - (intOf i).toNat)
  case atStart =>
    have h1 : ∀ n, 2 ^ 0 ∣ n := fun n => by rw [Nat.pow_zero]; exact Nat.one_dvd _
    exact ⟨0, by go_num, bit_some va0 (h1 _), h1 _, h1 _⟩
  case round =>
    obtain ⟨t, rfl, ht, hd1, hd2⟩ := hrel
    have h1 := hba t (by omega)
    have h2 := hbb t (by omega)
    have ht5 : t ≤ 480000 := by omega
    clear hba hbb
    by_cases hz1 : bitN N t = 0
    · have t1 := bit_eq0 hz1
      by_cases hz2 : bitN M t = 0
      · have t2 := bit_eq0 hz2
        have e1 := bit_zero_dvd hd1.out hz1
        have e2 := Lib.hid (bit_zero_dvd hd2.out hz2)
        have hk2 := bit_some va0 e1
        have E1 := Lib.hid e1
        clear e1 hz1 hz2
        go_wp2_with fail
        refine h1.mono ?_; rintro e w' ⟨rfl, rfl⟩
        go_wp2_with fail
        refine h2.mono ?_; rintro e w' ⟨rfl, rfl⟩
        go_wp2_with fail
        go_round
        case rel => exact ⟨t + 1, by go_num, hk2, E1, e2⟩
        case measure => simp [intOf]; omega
      · have t2 := bit_ne0 hz2
        have HOR : Hid (bitN N t ≠ 0 ∨ bitN M t ≠ 0) := .inr hz2
        clear hz1 hz2
        go_wp2_with fail
        refine h1.mono ?_; rintro e w' ⟨rfl, rfl⟩
        go_wp2_with fail
        refine h2.mono ?_; rintro e w' ⟨rfl, rfl⟩
        go_wp2_with fail
        refine hoa.mono ?_; rintro e w1 ⟨i, hi, A1, c1, rfl, O1, B1⟩
        go_wp2_with fail
        refine (hob w1 (stp HB.out B1)).mono ?_; rintro e w2 ⟨j, hj, A2, c2, rfl, O2, B2⟩
        go_wp2_with fail
        have hG : Hid (Nat.gcd (N / 2 ^ i) (M / 2 ^ j) * 2 ^ t = Nat.gcd N M) := gcd_twos hd1.out hd2.out HOR.out hi hj
        have hx0 := hi.2
        have hy0 := hj.2
        have hl1 : (digs (N / 2 ^ i)).length ≤ 15000 := digs_len_le.2 (Nat.lt_of_le_of_lt (Nat.div_le_self _ _) HVA.out)
        have hl2 : (digs (M / 2 ^ j)).length ≤ 15000 := digs_len_le.2 (Nat.lt_of_le_of_lt (Nat.div_le_self _ _) HVB.out)
        have R1 := stp O1.rw B2
        have R2 := O2.rw
        have C2 := bt B1 B2
        clear hi hj hd1 hd2 h1 h2 hoa hob O1 O2 B1 B2
        generalize N / 2 ^ i = x0 at *
        generalize M / 2 ^ j = y0 at *
        go_loopg [0, 1] (x0 + y0) (fun g av bv wr => ∃ (x y : Nat) (Ax : Option Addr) (cx : Nat) (Ay : Option Addr) (cy : Nat), x + y = g ∧ av = .slice Ax (digs x).length cx ∧ bv = .slice Ay (digs y).length cy ∧ x % 2 = 1 ∧ y % 2 = 1 ∧ (digs x).length ≤ 15000 ∧ (digs y).length ≤ 15000 ∧
          RW wr wr.heap.size Ax cx (digs x) ∧ RW wr wr.heap.size Ay cy (digs y) ∧ Hid (Nat.gcd x y * 2 ^ t = Nat.gcd N M) ∧ Below w.heap.size w wr)
        case atStart => exact ⟨x0, y0, A1, c1, A2, c2, rfl, rfl, rfl, hx0, hy0, hl1, hl2, R1, R2, hG, C2⟩
        case round =>
          obtain ⟨x, y, Ax, cx, Ay, cy, rfl, rfl, rfl, hx, hy, lx, ly, Rx, Ry, hg, B⟩ := hrel
          have H1 := rorder_any Ax Ay cx cy _ _ (digs x) (digs y) wr rfl rfl Rx Ry (Nrm_digs _) (Nrm_digs _)
          rw [val_digs, val_digs] at H1
          have H2 := fun q => rsize_any Ax cx _ (digs x) (wr.drewN q) rfl (Rx.drewN q)
          have H3 := fun q => rsize_any Ay cy _ (digs y) (wr.drewN q) rfl (Ry.drewN q)
          rw [val_digs] at H2 H3
          have hbx := blen_one_iff (show 0 < x by omega)
          have hby := blen_one_iff (show 0 < y by omega)
          have H4 : ∀ w1 : World, Calls Try.prog 36 #[.slice (some ⟨w1.heap.size, 0, none⟩) 1 1, .int .i64 (t : Int)] (w1.alloc (.cells #[.int .u32 (1 : Nat)] 53)) (RetW (w1.alloc (.cells #[.int .u32 (1 : Nat)] 53)) (2 ^ t)) := fun w1 => by
            have h := rup_any (some ⟨w1.heap.size, 0, none⟩) 1 1 [1] (w1.alloc (.cells #[.int .u32 (1 : Nat)] 53)) t (by omega) rfl ((RW.one w1 53 (show 1 < 4294967296 by omega)).more (by simp)) (by simp)
            rw [val_one, Nat.one_mul] at h; exact h
          by_cases hxy : x = y
          · subst hxy
            have hcm : cmpN x x = 0 := by unfold cmpN; rw [if_neg (by omega), if_pos rfl]
            rw [hcm] at H1
            have H5 := fun q => rup_any Ax cx _ (digs x) (wr.drewN q) t (by omega) rfl (Rx.drewN q) (by omega)
            have eg : x * 2 ^ t = Nat.gcd N M := by have h := hg.out; rw [Nat.gcd_self] at h; exact h
            rw [val_digs, eg] at H5
            clear hcm hbx hby eg H2 H3 H4 Rx Ry
            go_wp2_with fail
            refine H1.mono ?_; rintro e w3 ⟨rfl, q, rfl⟩
            go_wp2_with fail
            refine (H5 q).mono ?_; rintro e w4 ⟨A4, c4, rfl, O4, B4⟩
            go_wp2_with fail
            go_ret
            exact ⟨A4, c4, rfl, O4.base_le B.size, bt (bdN B q) B4⟩
          · have hcm : cmpN x y ≠ 0 := by unfold cmpN; split <;> (try split) <;> omega
            have tcm : (cmpN x y != 0) = true := by simpa using hcm
            by_cases hx1 : x = 1
            · have t1 : ((blen x : Int) == 1) = true := by rw [hbx.2 hx1]; rfl
              have eg : 2 ^ t = Nat.gcd N M := by have h := hg.out; rw [hx1, Nat.gcd_one_left, Nat.one_mul] at h; exact h
              rw [eg] at H4
              generalize cmpN x y = cm at *
              clear hcm hbx hby eg H3 Rx Ry hx1 hxy
              generalize blen x = bx at *
              go_wp2_with fail
              refine H1.mono ?_; rintro e w3 ⟨rfl, q, rfl⟩
              go_wp2_with fail
              refine (H2 q).mono ?_; rintro e w3 ⟨rfl, rfl⟩
              go_wp2_with fail
              have Ba : Below w.heap.size w ((wr.drewN q).alloc (.cells #[.int .u32 (1 : Nat)] 53)) := (bdN B q).alloc (bdN B q).size _
              refine (H4 (wr.drewN q)).mono ?_; rintro e w4 ⟨A4, c4, rfl, O4, B4⟩
              go_wp2_with fail
              go_ret
              exact ⟨A4, c4, rfl, O4.base_le Ba.size, bt Ba B4⟩
            · have t1 : ((blen x : Int) == 1) = false := beq_eq_false_iff_ne.2 (fun h => hx1 (hbx.1 (by omega)))
              by_cases hy1 : y = 1
              · have t2 : ((blen y : Int) == 1) = true := by rw [hby.2 hy1]; rfl
                have eg : 2 ^ t = Nat.gcd N M := by have h := hg.out; rw [hy1, Nat.gcd_one_right, Nat.one_mul] at h; exact h
                rw [eg] at H4
                generalize cmpN x y = cm at *
                clear hcm hbx hby eg Rx Ry hx1 hxy hy1
                generalize blen x = bx at *
                generalize blen y = by1 at *
                go_wp2_with fail
                refine H1.mono ?_; rintro e w3 ⟨rfl, q, rfl⟩
                go_wp2_with fail
                refine (H2 q).mono ?_; rintro e w3 ⟨rfl, rfl⟩
                go_wp2_with fail
                refine (H3 q).mono ?_; rintro e w3 ⟨rfl, rfl⟩
                go_wp2_with fail
                have Ba : Below w.heap.size w ((wr.drewN q).alloc (.cells #[.int .u32 (1 : Nat)] 53)) := (bdN B q).alloc (bdN B q).size _
                refine (H4 (wr.drewN q)).mono ?_; rintro e w4 ⟨A4, c4, rfl, O4, B4⟩
                go_wp2_with fail
                go_ret
                exact ⟨A4, c4, rfl, O4.base_le Ba.size, bt Ba B4⟩
              · have t2 : ((blen y : Int) == 1) = false := beq_eq_false_iff_ne.2 (fun h => hy1 (hby.1 (by omega)))
                have H1' := fun q => rorder_any Ax Ay cx cy _ _ (digs x) (digs y) (wr.drewN q) rfl rfl (Rx.drewN q) (Ry.drewN q) (Nrm_digs _) (Nrm_digs _)
                rw [val_digs, val_digs] at H1'
                by_cases hlt : x < y
                · have hcl : cmpN x y = -1 := by unfold cmpN; rw [if_pos hlt]
                  rw [hcl] at H1 H1'
                  have hll : (digs x).length ≤ (digs y).length := len_of_le (B32_digs _) (Nrm_digs _) (by rw [val_digs, val_digs]; omega)
                  have H6 := fun w' h1 h2 => rless_any Ay Ax cy cx _ _ (digs y) (digs x) w' rfl rfl h1 h2 hll (by rw [val_digs, val_digs]; omega) (by omega)
                  rw [val_digs, val_digs] at H6
                  have hl6 : (digs (y - x)).length ≤ (digs y).length := len_of_le (B32_digs _) (Nrm_digs _) (by rw [val_digs, val_digs]; omega)
                  have H7 := fun A6 c6 w' h1 => rodd_any A6 c6 _ (digs (y - x)) w' rfl h1 (by rw [val_digs]; omega) (by omega)
                  rw [val_digs] at H7
                  have HL := Lib.hid hlt
                  clear hcm tcm hcl hbx hby H4 hx1 hxy hy1 hll hlt
                  generalize blen x = bx at *
                  generalize blen y = by1 at *
                  go_wp2_with fail
                  refine H1.mono ?_; rintro e w3 ⟨rfl, q, rfl⟩
                  go_wp2_with fail
                  refine (H2 q).mono ?_; rintro e w3 ⟨rfl, rfl⟩
                  go_wp2_with fail
                  refine (H3 q).mono ?_; rintro e w3 ⟨rfl, rfl⟩
                  go_wp2_with fail
                  refine (H1' q).mono ?_; rintro e w3 ⟨rfl, q2, rfl⟩
                  go_wp2_with fail
                  refine (H6 _ (Ry.drewN (q + q2)) (Rx.drewN (q + q2))).mono ?_; rintro e w6 ⟨A6, c6, rfl, O6, B6⟩
                  go_wp2_with fail
                  refine (H7 A6 c6 w6 O6.rw).mono ?_; rintro e w7 ⟨k, hk, A7, c7, rfl, O7, B7⟩
                  go_wp2_with fail
                  have hko := hk.2
                  have h67 := bt B6 B7
                  have hlz := odd_lt (k := k) (show 0 < x by omega) HL.out
                  have hl7 : (digs ((y - x) / 2 ^ k)).length ≤ 15000 := Nat.le_trans (len_of_le (a := digs (y - x)) (B32_digs _) (Nrm_digs _) (by rw [val_digs, val_digs]; exact Nat.div_le_self _ _)) (by omega)
                  have hg2 : Hid (Nat.gcd ((y - x) / 2 ^ k) x * 2 ^ t = Nat.gcd N M) := by show _ = _; rw [gcd_swap hx (by have := HL.out; omega) hk]; exact hg.out
                  go_roundg ((y - x) / 2 ^ k + x)
                  case measure => omega
                  case rel => exact ⟨(y - x) / 2 ^ k, x, A7, c7, Ax, cx, rfl, rfl, rfl, hko, hx, hl7, lx, O7.rw, stp (Rx.drewN (q + q2)) h67, hg2, bt (bdN B (q + q2)) h67⟩
                · have hcl : ¬ cmpN x y < 0 := by unfold cmpN; rw [if_neg hlt]; split <;> omega
                  have hll : (digs y).length ≤ (digs x).length := len_of_le (B32_digs _) (Nrm_digs _) (by rw [val_digs, val_digs]; omega)
                  have H6 := fun w' h1 h2 => rless_any Ax Ay cx cy _ _ (digs x) (digs y) w' rfl rfl h1 h2 hll (by rw [val_digs, val_digs]; omega) (by omega)
                  rw [val_digs, val_digs] at H6
                  have hl6 : (digs (x - y)).length ≤ (digs x).length := len_of_le (B32_digs _) (Nrm_digs _) (by rw [val_digs, val_digs]; omega)
                  have H7 := fun A6 c6 w' h1 => rodd_any A6 c6 _ (digs (x - y)) w' rfl h1 (by rw [val_digs]; omega) (by omega)
                  rw [val_digs] at H7
                  have HL : Hid (y < x) := by show _ < _; omega
                  generalize cmpN x y = cm at *
                  clear hcm hbx hby H4 hx1 hxy hy1 hll hlt
                  generalize blen x = bx at *
                  generalize blen y = by1 at *
                  go_wp2_with fail
                  refine H1.mono ?_; rintro e w3 ⟨rfl, q, rfl⟩
                  go_wp2_with fail
                  refine (H2 q).mono ?_; rintro e w3 ⟨rfl, rfl⟩
                  go_wp2_with fail
                  refine (H3 q).mono ?_; rintro e w3 ⟨rfl, rfl⟩
                  go_wp2_with fail
                  refine (H1' q).mono ?_; rintro e w3 ⟨rfl, q2, rfl⟩
                  go_wp2_with fail
                  refine (H6 _ (Rx.drewN (q + q2)) (Ry.drewN (q + q2))).mono ?_; rintro e w6 ⟨A6, c6, rfl, O6, B6⟩
                  go_wp2_with fail
                  refine (H7 A6 c6 w6 O6.rw).mono ?_; rintro e w7 ⟨k, hk, A7, c7, rfl, O7, B7⟩
                  go_wp2_with fail
                  have hko := hk.2
                  have h67 := bt B6 B7
                  have hlz := odd_lt (k := k) (show 0 < y by omega) HL.out
                  have hl7 : (digs ((x - y) / 2 ^ k)).length ≤ 15000 := Nat.le_trans (len_of_le (a := digs (x - y)) (B32_digs _) (Nrm_digs _) (by rw [val_digs, val_digs]; exact Nat.div_le_self _ _)) (by omega)
                  have hg2 : Hid (Nat.gcd ((x - y) / 2 ^ k) y * 2 ^ t = Nat.gcd N M) := by show _ = _; rw [gcd_sub hy (by have := HL.out; omega) hk]; exact hg.out
                  go_roundg ((x - y) / 2 ^ k + y)
                  case measure => omega
                  case rel => exact ⟨(x - y) / 2 ^ k, y, A7, c7, Ay, cy, rfl, rfl, rfl, hko, hy, hl7, ly, O7.rw, stp (Ry.drewN (q + q2)) h67, hg2, bt (bdN B (q + q2)) h67⟩
    · have t1 := bit_ne0 hz1
      have HOR : Hid (bitN N t ≠ 0 ∨ bitN M t ≠ 0) := .inl hz1
      clear hz1
      go_wp2_with fail
      refine h1.mono ?_; rintro e w' ⟨rfl, rfl⟩
      go_wp2_with fail
      refine hoa.mono ?_; rintro e w1 ⟨i, hi, A1, c1, rfl, O1, B1⟩
      go_wp2_with fail
      refine (hob w1 (stp HB.out B1)).mono ?_; rintro e w2 ⟨j, hj, A2, c2, rfl, O2, B2⟩
      go_wp2_with fail
      have hG : Hid (Nat.gcd (N / 2 ^ i) (M / 2 ^ j) * 2 ^ t = Nat.gcd N M) := gcd_twos hd1.out hd2.out HOR.out hi hj
      have hx0 := hi.2
      have hy0 := hj.2
      have hl1 : (digs (N / 2 ^ i)).length ≤ 15000 := digs_len_le.2 (Nat.lt_of_le_of_lt (Nat.div_le_self _ _) HVA.out)
      have hl2 : (digs (M / 2 ^ j)).length ≤ 15000 := digs_len_le.2 (Nat.lt_of_le_of_lt (Nat.div_le_self _ _) HVB.out)
      have R1 := stp O1.rw B2
      have R2 := O2.rw
      have C2 := bt B1 B2
      clear hi hj hd1 hd2 h1 h2 hoa hob O1 O2 B1 B2
      generalize N / 2 ^ i = x0 at *
      generalize M / 2 ^ j = y0 at *
      go_loopg [0, 1] (x0 + y0) (fun g av bv wr => ∃ (x y : Nat) (Ax : Option Addr) (cx : Nat) (Ay : Option Addr) (cy : Nat), x + y = g ∧ av = .slice Ax (digs x).length cx ∧ bv = .slice Ay (digs y).length cy ∧ x % 2 = 1 ∧ y % 2 = 1 ∧ (digs x).length ≤ 15000 ∧ (digs y).length ≤ 15000 ∧
        RW wr wr.heap.size Ax cx (digs x) ∧ RW wr wr.heap.size Ay cy (digs y) ∧ Hid (Nat.gcd x y * 2 ^ t = Nat.gcd N M) ∧ Below w.heap.size w wr)
      case atStart => exact ⟨x0, y0, A1, c1, A2, c2, rfl, rfl, rfl, hx0, hy0, hl1, hl2, R1, R2, hG, C2⟩
      case round =>
        obtain ⟨x, y, Ax, cx, Ay, cy, rfl, rfl, rfl, hx, hy, lx, ly, Rx, Ry, hg, B⟩ := hrel
        have H1 := rorder_any Ax Ay cx cy _ _ (digs x) (digs y) wr rfl rfl Rx Ry (Nrm_digs _) (Nrm_digs _)
        rw [val_digs, val_digs] at H1
        have H2 := fun q => rsize_any Ax cx _ (digs x) (wr.drewN q) rfl (Rx.drewN q)
        have H3 := fun q => rsize_any Ay cy _ (digs y) (wr.drewN q) rfl (Ry.drewN q)
        rw [val_digs] at H2 H3
        have hbx := blen_one_iff (show 0 < x by omega)
        have hby := blen_one_iff (show 0 < y by omega)
        have H4 : ∀ w1 : World, Calls Try.prog 36 #[.slice (some ⟨w1.heap.size, 0, none⟩) 1 1, .int .i64 (t : Int)] (w1.alloc (.cells #[.int .u32 (1 : Nat)] 53)) (RetW (w1.alloc (.cells #[.int .u32 (1 : Nat)] 53)) (2 ^ t)) := fun w1 => by
          have h := rup_any (some ⟨w1.heap.size, 0, none⟩) 1 1 [1] (w1.alloc (.cells #[.int .u32 (1 : Nat)] 53)) t (by omega) rfl ((RW.one w1 53 (show 1 < 4294967296 by omega)).more (by simp)) (by simp)
          rw [val_one, Nat.one_mul] at h; exact h
        by_cases hxy : x = y
        · subst hxy
          have hcm : cmpN x x = 0 := by unfold cmpN; rw [if_neg (by omega), if_pos rfl]
          rw [hcm] at H1
          have H5 := fun q => rup_any Ax cx _ (digs x) (wr.drewN q) t (by omega) rfl (Rx.drewN q) (by omega)
          have eg : x * 2 ^ t = Nat.gcd N M := by have h := hg.out; rw [Nat.gcd_self] at h; exact h
          rw [val_digs, eg] at H5
          clear hcm hbx hby eg H2 H3 H4 Rx Ry
          go_wp2_with fail
          refine H1.mono ?_; rintro e w3 ⟨rfl, q, rfl⟩
          go_wp2_with fail
          refine (H5 q).mono ?_; rintro e w4 ⟨A4, c4, rfl, O4, B4⟩
          go_wp2_with fail
          go_ret
          exact ⟨A4, c4, rfl, O4.base_le B.size, bt (bdN B q) B4⟩
        · have hcm : cmpN x y ≠ 0 := by unfold cmpN; split <;> (try split) <;> omega
          have tcm : (cmpN x y != 0) = true := by simpa using hcm
          by_cases hx1 : x = 1
          · have t1 : ((blen x : Int) == 1) = true := by rw [hbx.2 hx1]; rfl
            have eg : 2 ^ t = Nat.gcd N M := by have h := hg.out; rw [hx1, Nat.gcd_one_left, Nat.one_mul] at h; exact h
            rw [eg] at H4
            generalize cmpN x y = cm at *
            clear hcm hbx hby eg H3 Rx Ry hx1 hxy
            generalize blen x = bx at *
            go_wp2_with fail
            refine H1.mono ?_; rintro e w3 ⟨rfl, q, rfl⟩
            go_wp2_with fail
            refine (H2 q).mono ?_; rintro e w3 ⟨rfl, rfl⟩
            go_wp2_with fail
            have Ba : Below w.heap.size w ((wr.drewN q).alloc (.cells #[.int .u32 (1 : Nat)] 53)) := (bdN B q).alloc (bdN B q).size _
            refine (H4 (wr.drewN q)).mono ?_; rintro e w4 ⟨A4, c4, rfl, O4, B4⟩
            go_wp2_with fail
            go_ret
            exact ⟨A4, c4, rfl, O4.base_le Ba.size, bt Ba B4⟩
          · have t1 : ((blen x : Int) == 1) = false := beq_eq_false_iff_ne.2 (fun h => hx1 (hbx.1 (by omega)))
            by_cases hy1 : y = 1
            · have t2 : ((blen y : Int) == 1) = true := by rw [hby.2 hy1]; rfl
              have eg : 2 ^ t = Nat.gcd N M := by have h := hg.out; rw [hy1, Nat.gcd_one_right, Nat.one_mul] at h; exact h
              rw [eg] at H4
              generalize cmpN x y = cm at *
              clear hcm hbx hby eg Rx Ry hx1 hxy hy1
              generalize blen x = bx at *
              generalize blen y = by1 at *
              go_wp2_with fail
              refine H1.mono ?_; rintro e w3 ⟨rfl, q, rfl⟩
              go_wp2_with fail
              refine (H2 q).mono ?_; rintro e w3 ⟨rfl, rfl⟩
              go_wp2_with fail
              refine (H3 q).mono ?_; rintro e w3 ⟨rfl, rfl⟩
              go_wp2_with fail
              have Ba : Below w.heap.size w ((wr.drewN q).alloc (.cells #[.int .u32 (1 : Nat)] 53)) := (bdN B q).alloc (bdN B q).size _
              refine (H4 (wr.drewN q)).mono ?_; rintro e w4 ⟨A4, c4, rfl, O4, B4⟩
              go_wp2_with fail
              go_ret
              exact ⟨A4, c4, rfl, O4.base_le Ba.size, bt Ba B4⟩
            · have t2 : ((blen y : Int) == 1) = false := beq_eq_false_iff_ne.2 (fun h => hy1 (hby.1 (by omega)))
              have H1' := fun q => rorder_any Ax Ay cx cy _ _ (digs x) (digs y) (wr.drewN q) rfl rfl (Rx.drewN q) (Ry.drewN q) (Nrm_digs _) (Nrm_digs _)
              rw [val_digs, val_digs] at H1'
              by_cases hlt : x < y
              · have hcl : cmpN x y = -1 := by unfold cmpN; rw [if_pos hlt]
                rw [hcl] at H1 H1'
                have hll : (digs x).length ≤ (digs y).length := len_of_le (B32_digs _) (Nrm_digs _) (by rw [val_digs, val_digs]; omega)
                have H6 := fun w' h1 h2 => rless_any Ay Ax cy cx _ _ (digs y) (digs x) w' rfl rfl h1 h2 hll (by rw [val_digs, val_digs]; omega) (by omega)
                rw [val_digs, val_digs] at H6
                have hl6 : (digs (y - x)).length ≤ (digs y).length := len_of_le (B32_digs _) (Nrm_digs _) (by rw [val_digs, val_digs]; omega)
                have H7 := fun A6 c6 w' h1 => rodd_any A6 c6 _ (digs (y - x)) w' rfl h1 (by rw [val_digs]; omega) (by omega)
                rw [val_digs] at H7
                have HL := Lib.hid hlt
                clear hcm tcm hcl hbx hby H4 hx1 hxy hy1 hll hlt
                generalize blen x = bx at *
                generalize blen y = by1 at *
                go_wp2_with fail
                refine H1.mono ?_; rintro e w3 ⟨rfl, q, rfl⟩
                go_wp2_with fail
                refine (H2 q).mono ?_; rintro e w3 ⟨rfl, rfl⟩
                go_wp2_with fail
                refine (H3 q).mono ?_; rintro e w3 ⟨rfl, rfl⟩
                go_wp2_with fail
                refine (H1' q).mono ?_; rintro e w3 ⟨rfl, q2, rfl⟩
                go_wp2_with fail
                refine (H6 _ (Ry.drewN (q + q2)) (Rx.drewN (q + q2))).mono ?_; rintro e w6 ⟨A6, c6, rfl, O6, B6⟩
                go_wp2_with fail
                refine (H7 A6 c6 w6 O6.rw).mono ?_; rintro e w7 ⟨k, hk, A7, c7, rfl, O7, B7⟩
                go_wp2_with fail
                have hko := hk.2
                have h67 := bt B6 B7
                have hlz := odd_lt (k := k) (show 0 < x by omega) HL.out
                have hl7 : (digs ((y - x) / 2 ^ k)).length ≤ 15000 := Nat.le_trans (len_of_le (a := digs (y - x)) (B32_digs _) (Nrm_digs _) (by rw [val_digs, val_digs]; exact Nat.div_le_self _ _)) (by omega)
                have hg2 : Hid (Nat.gcd ((y - x) / 2 ^ k) x * 2 ^ t = Nat.gcd N M) := by show _ = _; rw [gcd_swap hx (by have := HL.out; omega) hk]; exact hg.out
                go_roundg ((y - x) / 2 ^ k + x)
                case measure => omega
                case rel => exact ⟨(y - x) / 2 ^ k, x, A7, c7, Ax, cx, rfl, rfl, rfl, hko, hx, hl7, lx, O7.rw, stp (Rx.drewN (q + q2)) h67, hg2, bt (bdN B (q + q2)) h67⟩
              · have hcl : ¬ cmpN x y < 0 := by unfold cmpN; rw [if_neg hlt]; split <;> omega
                have hll : (digs y).length ≤ (digs x).length := len_of_le (B32_digs _) (Nrm_digs _) (by rw [val_digs, val_digs]; omega)
                have H6 := fun w' h1 h2 => rless_any Ax Ay cx cy _ _ (digs x) (digs y) w' rfl rfl h1 h2 hll (by rw [val_digs, val_digs]; omega) (by omega)
                rw [val_digs, val_digs] at H6
                have hl6 : (digs (x - y)).length ≤ (digs x).length := len_of_le (B32_digs _) (Nrm_digs _) (by rw [val_digs, val_digs]; omega)
                have H7 := fun A6 c6 w' h1 => rodd_any A6 c6 _ (digs (x - y)) w' rfl h1 (by rw [val_digs]; omega) (by omega)
                rw [val_digs] at H7
                have HL : Hid (y < x) := by show _ < _; omega
                generalize cmpN x y = cm at *
                clear hcm hbx hby H4 hx1 hxy hy1 hll hlt
                generalize blen x = bx at *
                generalize blen y = by1 at *
                go_wp2_with fail
                refine H1.mono ?_; rintro e w3 ⟨rfl, q, rfl⟩
                go_wp2_with fail
                refine (H2 q).mono ?_; rintro e w3 ⟨rfl, rfl⟩
                go_wp2_with fail
                refine (H3 q).mono ?_; rintro e w3 ⟨rfl, rfl⟩
                go_wp2_with fail
                refine (H1' q).mono ?_; rintro e w3 ⟨rfl, q2, rfl⟩
                go_wp2_with fail
                refine (H6 _ (Rx.drewN (q + q2)) (Ry.drewN (q + q2))).mono ?_; rintro e w6 ⟨A6, c6, rfl, O6, B6⟩
                go_wp2_with fail
                refine (H7 A6 c6 w6 O6.rw).mono ?_; rintro e w7 ⟨k, hk, A7, c7, rfl, O7, B7⟩
                go_wp2_with fail
                have hko := hk.2
                have h67 := bt B6 B7
                have hlz := odd_lt (k := k) (show 0 < y by omega) HL.out
                have hl7 : (digs ((x - y) / 2 ^ k)).length ≤ 15000 := Nat.le_trans (len_of_le (a := digs (x - y)) (B32_digs _) (Nrm_digs _) (by rw [val_digs, val_digs]; exact Nat.div_le_self _ _)) (by omega)
                have hg2 : Hid (Nat.gcd ((x - y) / 2 ^ k) y * 2 ^ t = Nat.gcd N M) := by show _ = _; rw [gcd_sub hy (by have := HL.out; omega) hk]; exact hg.out
                go_roundg ((x - y) / 2 ^ k + y)
                case measure => omega
                case rel => exact ⟨(x - y) / 2 ^ k, y, A7, c7, Ay, cy, rfl, rfl, rfl, hko, hy, hl7, ly, O7.rw, stp (Ry.drewN (q + q2)) h67, hg2, bt (bdN B (q + q2)) h67⟩

end Go.Proofs.Ytabcnpcfknlmlaa
