/- Merged texts: NatX, NatY, NDiv, PlainR. -/
import Derived.Test.YtbgggepdlkbpoaaGreatDoorGC
import Derived.Deep.DeepCutAuto
import Derived.Deep.CutBlock
import Derived.Deep.RegionWith
import Derived.Test.YtbgggepdlkbpoaaGreatDoorGB
import Derived.OwnWalk
import Derived.Test.YtbgggepdlkbpoaaGreatDoorGA
namespace Go.Proofs.YtbgggepdlkbpoaaGreatDoor
open Go.RowKit

theorem lz_any (x : Nat) (w : World) (h : x < 4294967296) (_h0 : x ≠ 0) : Calls Tryz.prog 83 #[.int .u32 (x : Int)] w fun e w' => e = .returned (.int .i64 ((32 - blen x : Nat) : Int)) ∧ w = w' := by
  have h1 := Tryz.bits_LeadingZeros32 (x : Int) w (by omega) (by omega)
  rw [Int.toNat_natCast, bitLen_eq x h] at h1
  have h2 := blen32 h
  exact h1.mono fun _ _ ⟨a, b⟩ => ⟨by rw [a]; exact ret_int (by omega), b.symm⟩
/-- the divisor, moved up till its highest bit is set -/
theorem norm_up {b : List Nat} {n : Nat} (hb : B32 b) (hl : b.length = n + 1) (h0 : wd b n ≠ 0) :
    (digs (val b * 2 ^ (32 - blen (wd b n)))).length = n + 1 ∧ 2147483648 ≤ wd (digs (val b * 2 ^ (32 - blen (wd b n)))) n := by
  have hlt := wd_lt hb n
  have h32 := blen32 hlt
  have h1 := val_take_succ (l := b) (k := n) (by omega)
  rw [← hl, List.take_length] at h1
  have h2 := val_take_lt hb n
  have h3 := blen_lt (wd b n)
  have h4 := blen_ge h0
  have hbp := blen_pos h0
  generalize hs : 32 - blen (wd b n) = s at *
  have e1 : wd b n * 2 ^ s < 4294967296 := by
    have : wd b n * 2 ^ s < 2 ^ blen (wd b n) * 2 ^ s := Nat.mul_lt_mul_of_pos_right h3 (Nat.pow_pos (by omega))
    rw [← Nat.pow_add, show blen (wd b n) + s = 32 by omega] at this
    exact this
  have e2 : 2147483648 ≤ wd b n * 2 ^ s := by
    have : 2 ^ (blen (wd b n) - 1) * 2 ^ s ≤ wd b n * 2 ^ s := Nat.mul_le_mul_right _ h4
    rw [← Nat.pow_add, show blen (wd b n) - 1 + s = 31 by omega] at this
    exact this
  have e3 : val b * 2 ^ s < Wp (n + 1) := by
    rw [h1, Nat.add_mul, Wp_succ]
    have f1 : (wd b n + 1) * 2 ^ s ≤ 4294967296 := by
      have : (wd b n + 1) * 2 ^ s ≤ 2 ^ blen (wd b n) * 2 ^ s := Nat.mul_le_mul_right _ h3
      rw [← Nat.pow_add, show blen (wd b n) + s = 32 by omega] at this
      exact this
    have f2 := Nat.mul_le_mul_right (Wp n) f1
    rw [Nat.add_mul, Nat.one_mul, Nat.add_mul] at f2
    have f3 : val (b.take n) * 2 ^ s < Wp n * 2 ^ s := Nat.mul_lt_mul_of_pos_right h2 (Nat.pow_pos (by omega))
    have f4 : wd b n * Wp n * 2 ^ s = wd b n * 2 ^ s * Wp n := by rw [Nat.mul_assoc, Nat.mul_comm (Wp n), ← Nat.mul_assoc]
    rw [Nat.mul_comm (Wp n)] at f3
    omega
  have e4 : 2147483648 * Wp n ≤ val b * 2 ^ s := by
    have f1 := Nat.mul_le_mul_right (Wp n) e2
    have f4 : wd b n * Wp n * 2 ^ s = wd b n * 2 ^ s * Wp n := by rw [Nat.mul_assoc, Nat.mul_comm (Wp n), ← Nat.mul_assoc]
    rw [h1, Nat.add_mul]; omega
  have hp := Wp_pos n
  have e5 : (digs (val b * 2 ^ s)).length = n + 1 := by
    have a1 := digs_len_le.2 e3
    have a2 : n < (digs (val b * 2 ^ s)).length := digs_len_lt.2 (by omega)
    omega
  refine ⟨e5, ?_⟩
  rw [wd_val (B32_digs _), val_digs, Nat.mod_eq_of_lt]
  · rw [Nat.le_div_iff_mul_le hp]; exact e4
  · rw [Nat.div_lt_iff_lt_mul hp, ← Wp_succ]; exact e3
/-- the words of a number, and noughts behind them -/
theorem pad_val {N L : Nat} (h1 : (digs N).length ≤ L) (h2 : L ≤ (digs N).length + 2) : ((digs N ++ [0, 0]).take L).length = L ∧ val ((digs N ++ [0, 0]).take L) = N := by
  have hl : (digs N ++ [0, 0]).length = (digs N).length + 2 := by simp
  refine ⟨by rw [List.length_take]; omega, ?_⟩
  rw [List.take_append, val_append, List.take_of_length_le h1, val_digs]
  have : val (([0, 0] : List Nat).take (L - (digs N).length)) = 0 := by
    have : ∀ k, val (([0, 0] : List Nat).take k) = 0 := by
      intro k
      match k with
      | 0 => rfl
      | 1 => rfl
      | k + 2 => simp [val]
    exact this _
  rw [this]; omega
theorem up_len {N s k : Nat} (h : (digs N).length = k + 1) (hs : s < 32) : k + 1 ≤ (digs (N * 2 ^ s)).length ∧ (digs (N * 2 ^ s)).length ≤ k + 2 := by
  have h1 : Wp k ≤ N := digs_len_lt.1 (by omega)
  have h2 : N < Wp (k + 1) := digs_len_le.1 (by omega)
  have h3 : N * 1 ≤ N * 2 ^ s := Nat.mul_le_mul_left _ (Nat.pow_pos (by omega))
  have h4 : N * 2 ^ s < Wp (k + 1) * 4294967296 := by
    have a := Nat.mul_lt_mul_of_pos_right (k := 2 ^ s) h2 (Nat.pow_pos (by omega))
    have b := Nat.mul_le_mul_left (Wp (k + 1)) (Nat.le_trans (pow_le32 hs) (show 2147483648 ≤ 4294967296 by omega))
    omega
  constructor
  · exact digs_len_lt.2 (by omega)
  · exact digs_len_le.2 (by rw [Wp_succ (k + 1), Nat.mul_comm 4294967296]; exact h4)

/-- an answer: a quotient and what is left -/
def RetQ (w : World) (Q R : Nat) (e : Ending) (w' : World) : Prop :=
  ∃ A1 c1 A2 c2, e = .returned (.tuple #[.slice A1 (digs Q).length c1, .slice A2 (digs R).length c2]) ∧ OW w' w.heap.size A1 c1 (digs Q) ∧ OW w' w.heap.size A2 c2 (digs R) ∧ Below w.heap.size w w'

def rsum (r v : Nat) : Nat := r + v
def tpred (t : Nat) : Nat := t - 1
theorem u64_id {x : Int} {y : Int} (h : x = y) (h1 : 0 ≤ y ∧ y ≤ 18446744073709551615) : IntKind.u64.wrap x = y := by rw [h]; exact IntWalk.u64_in _ (by omega)

theorem ms_c {x t d : Nat} (hx : x < 4294967296) (ht : t ≤ 4294967295) (hd : d < 4294967296) : IntKind.u64.wrap ((x : Int) + IntKind.u64.wrap ((t : Int) * (d : Int))) = (msC x t d : Int) := by
  have h := msC_lt hx ht hd
  have h2 := tv_le ht hd
  have e2 : IntKind.u64.wrap ((t : Int) * (d : Int)) = (tv t d : Int) := u64_id (by unfold tv; simp) (by omega)
  rw [e2]
  exact u64_id (by unfold tv msC; omega) (by omega)
theorem low_and {c : Nat} (h : c ≤ 18446744073709551615) : bits .and .u64 (c : Int) 4294967295 = ((c % 4294967296 : Nat) : Int) := by
  have := u64_and_nat c 4294967295 (by omega) (by omega)
  rw [show ((4294967295 : Nat) : Int) = 4294967295 from rfl] at this
  rw [this, show (4294967295 : Nat) = 2 ^ 32 - 1 from rfl, Nat.and_two_pow_sub_one_eq_mod]
def msX (u x t d q : Nat) : Int := IntKind.u64.wrap (IntKind.u64.wrap ((u : Int) - bits .and .u64 (IntKind.u64.wrap ((x : Int) + IntKind.u64.wrap ((t : Int) * (d : Int)))) 4294967295) - (q : Int))
theorem ms_x {u x t d q : Nat} (hu : u < 4294967296) (hx : x < 4294967296) (ht : t ≤ 4294967295) (hd : d < 4294967296) (hq : q ≤ 1) :
    msX u x t d q / 9223372036854775808 = (msB u (msC x t d) q : Int) ∧ msX u x t d q % 4294967296 = (msF u (msC x t d) q : Int) := by
  unfold msX
  have h := msC_lt hx ht hd
  rw [ms_c hx ht hd, low_and (by omega), IntKind.wrap_u64, IntKind.wrap_u64]
  generalize msC x t d = C at *
  have hm := Nat.mod_lt C (show 4294967296 > 0 by omega)
  unfold msB msF
  generalize C % 4294967296 = r at *
  split
  · constructor <;> omega
  · constructor <;> omega
theorem val_lt_of_zero {l : List Nat} {k : Nat} (hb : B32 l) (hz : ∀ t, k ≤ t → wd l t = 0) : val l < Wp k := by
  by_cases hk : l.length ≤ k
  · exact Nat.lt_of_lt_of_le (val_lt hb) (Wp_mono hk)
  · have h1 := val_take_drop l k (by omega)
    have h2 : val (l.drop k) = 0 := by
      have : l.drop k = List.replicate (l.length - k) 0 := by
        refine wd_ext (by simp) fun t ht => ?_
        rw [wd_replicate, wd_drop, hz _ (by omega)]
      rw [this, val_replicate]
    have := val_take_lt hb k
    rw [h2] at h1; omega
theorem dg_yes {U U2 D X P W t L : Nat} (hU : U = L + P * X) (h2 : U2 < W) (h : U2 + t * D * P = U + W) (hD : (t - 1) * D ≤ X) :
    1 ≤ t ∧ X < (t - 1 + 1) * D ∧ U2 + D * P = (U - (t - 1) * D * P) + W ∧ (U - (t - 1) * D * P) + (t - 1) * D * P = U := by
  have ht : 1 ≤ t := by
    rcases Nat.eq_zero_or_pos t with rfl | h0
    · rw [Nat.zero_mul, Nat.zero_mul] at h; omega
    · exact h0
  obtain ⟨r, rfl⟩ : ∃ r, t = r + 1 := ⟨t - 1, by omega⟩
  rw [Nat.add_sub_cancel] at hD ⊢
  have e1 : r * D * P ≤ X * P := Nat.mul_le_mul_right _ hD
  rw [Nat.mul_comm X P] at e1
  have e2 : (r + 1) * D * P = r * D * P + D * P := by rw [Nat.add_mul, Nat.add_mul, Nat.one_mul]
  refine ⟨ht, ?_, by omega, by omega⟩
  rcases Nat.lt_or_ge X ((r + 1) * D) with h3 | h3
  · exact h3
  · have e3 : (r + 1) * D * P ≤ X * P := Nat.mul_le_mul_right _ h3
    rw [Nat.mul_comm X P] at e3
    omega
theorem ov_top {N M s n m : Nat} {l : List Nat} (hl : val l = N * 2 ^ s) (hN : N < Wp n) (hM : Wp (m - 1) ≤ M) (hm : 1 ≤ m) (hmn : m ≤ n) (hk : n + 1 - m ≤ l.length) : val (l.drop (n + 1 - m)) < M * 2 ^ s := by
  have h1 := val_take_drop l _ hk
  have hp2 : 0 < 2 ^ s := Nat.pow_pos (by omega)
  have h2 : N * 2 ^ s < Wp n * 2 ^ s := Nat.mul_lt_mul_of_pos_right hN hp2
  have h3 : Wp n = Wp (n + 1 - m) * Wp (m - 1) := by rw [← Wp_add]; congr 1; omega
  have h4 : Wp (n + 1 - m) * val (l.drop (n + 1 - m)) < Wp (n + 1 - m) * (Wp (m - 1) * 2 ^ s) := by
    rw [← Nat.mul_assoc, ← h3]; omega
  exact Nat.lt_of_lt_of_le (Nat.lt_of_mul_lt_mul_left h4) (Nat.mul_le_mul_right _ hM)
set_option maxRecDepth 100000 in
set_option maxHeartbeats 8000000 in
theorem over_main (A D : Option Addr) (c d m : Nat) (a b : List Nat) (w : World) (ha : RW w w.heap.size A c a) (hb : RW w w.heap.size D d b) (na : Nrm a) (nb : Nrm b) (hm : b.length = m) (hm2 : 2 ≤ m) (hle : val b ≤ val a) (hla : a.length ≤ 8796093022208) :
    Calls Tryz.prog 69 #[.slice A a.length c, .slice D b.length d] w (RetQ w (val a / val b) (val a % val b)) := by
  have ba := ha.b32
  have bb := hb.b32
  have hll := len_of_le ba nb hle
  have hor := order_any A D c d _ _ a b w rfl rfl ha hb na nb
  have hcmp : ¬ cmpN (val a) (val b) < 0 := by unfold cmpN; split <;> (try split) <;> omega
  have hv0 : wd b (m - 1) ≠ 0 := by
    rcases nb with rfl | h
    · simp at hm; omega
    · rw [hm] at h; exact h
  have hlz := lz_any (wd b (m - 1))
  have hbl := blen_pos hv0
  have hb32 := blen32 (wd_lt bb (m - 1))
  obtain ⟨hdl, hd31⟩ := norm_up bb (show b.length = (m - 1) + 1 by omega) hv0
  rw [Nat.sub_add_cancel (by omega)] at hdl
  have hs32 : 32 - blen (wd b (m - 1)) < 32 := by omega
  have hda : a = digs (val a) := (digs_val ba na).symm
  obtain ⟨ka, hka⟩ : ∃ ka, a.length = ka + 1 := ⟨a.length - 1, by omega⟩
  have hul := up_len (N := val a) (k := ka) (by rw [← hda]; exact hka) hs32
  generalize cmpN (val a) (val b) = cmp at *
  generalize hs : 32 - blen (wd b (m - 1)) = s at *
  have hlen1 : ((b.length : Int) == 1) = false := beq_eq_false_iff_ne.2 (by omega)
  obtain ⟨b1, o1, hD, hlt1, hx⟩ := hb.at_ (by omega)
  have hxk := hx (m - 1) (by omega)
  have hlzz := fun w => hlz w (wd_lt bb (m - 1)) hv0
  have hpad := pad_val (N := val a * 2 ^ s) (L := a.length + 1) (by omega) (by omega)
  subst hD
  have hml : m ≤ a.length := by omega
  have hka1 : a.length ≤ ka + 1 := by omega
  have hka2 : ka + 1 ≤ a.length := by omega
  have hbn : (b.length : Int) - 1 = ((m - 1 : Nat) : Int) := by omega
  have hnb : m - 1 < b.length := by omega
  have HM := Lib.hid hm
  have HDA := Lib.hid hda
  have HDL := Lib.hid hdl
  clear hm hda hka hx hs hdl
  go_enter Tryz.func69, Tryz.ntmps69
  go_wp2_with fail
  refine hor.mono ?_; rintro e w1 ⟨rfl, q0, rfl⟩
  go_wp2_with fail
  refine (hlzz _).mono ?_; rintro e w1 ⟨rfl, rfl⟩
  go_wp2_with fail
  refine (up_any (some ⟨b1, o1, none⟩) d _ b _ s (by omega) rfl (hb.drewN q0) (by omega)).mono ?_; rintro e w3 ⟨A3, c3, rfl, O3, B3⟩
  rw [HDL.out]
  have B03 : Below w.heap.size w w3 := (bdN (Below.refl _ _) q0).trans B3
  go_wp2_with fail
  refine (up_any A c _ a w3 s (by omega) rfl (ha.step B03 B03.size) (by omega)).mono ?_; rintro e w4 ⟨A4, c4, rfl, O4, B4⟩
  have B04 := B03.trans (B4.mono B03.size)
  have hb5 : Below w3.heap.size w3 (w4.alloc (.cells #[.int .u32 (0 : Nat), .int .u32 (0 : Nat)] 55)) := B4.alloc B4.size _
  have h00 := RW.two w4 55 (show 0 < 4294967296 by omega) (show 0 < 4294967296 by omega)
  have hml2 : (a.length : Int) + 1 - (m : Int) = ((a.length + 1 - m : Nat) : Int) := by omega
  have HML := Lib.hid hml2
  clear hml2
  go_wp2_with (first
    | (at_builtin; refine wp_appW _ rfl _ _ rfl w3.heap.size _ _ _ (digs (val a * 2 ^ s)) rfl rfl (O4.alloc _) _ _ _ [0, 0] rfl rfl _ h00 (by simp; omega) hb5.size ?_; intro A5 c5 w5 g1 g2 g3; have g4 := g1.lc; rw [List.length_append] at g4 ⊢; simp only [List.length_cons, List.length_nil] at g4)
    | (at_make; refine wp_makeW _ rfl _ _ rfl .i64 .i64 _ _ (a.length + 1 - m) rfl rfl HML.out HML.out (by omega) ?_; intro w6 O6 B6 hs6))
  -- the rows: u, q, and the divisor
  have hul0 := hpad.1
  have O5 := (g1.take (a.length + 1)).below B6 (Nat.le_refl _)
  obtain ⟨gu, rfl⟩ : ∃ g, A5 = some ⟨g, 0, none⟩ := by
    rcases O5.form with ⟨_, _, he⟩ | ⟨g, rfl, _⟩
    · rw [he] at hul0; simp at hul0
    · exact ⟨g, rfl⟩
  have hgu : gu < w5.heap.size := (g1.take (a.length + 1)).lt.2
  have B36 : Below w3.heap.size w3 w6 := (hb5.trans g3).trans (B6.mono (hb5.trans g3).size)
  have Rd := O3.rw
  obtain ⟨p, hp⟩ : ∃ p, m = p + 2 := ⟨m - 2, by omega⟩
  rw [hp, show p + 2 - 1 = p + 1 by omega] at hd31
  have hdl2 : (digs (val b * 2 ^ s)).length = p + 2 := by rw [HDL.out]; exact hp
  have HDL2 := Lib.hid hdl2
  have hbd := B32_digs (val b * 2 ^ s)
  have hvd := val_digs (val b * 2 ^ s)
  have hOv0 : Hid (Ov (val a * 2 ^ s) ((digs (val a * 2 ^ s) ++ [0, 0]).take (a.length + 1)) (digs (val b * 2 ^ s)) (List.replicate (a.length + 1 - m) 0) (a.length + 1 - m)) := by
    refine ⟨by rw [hpad.2, val_replicate]; simp, ?_, fun t _ => wd_replicate _ _⟩
    rw [val_digs]
    refine ov_top (N := val a) (by rw [hpad.2]) (val_lt ba) (digs_len_lt.1 ?_) (by omega) (by omega) (by rw [hpad.1]; omega)
    rw [digs_val bb nb, HM.out]; omega
  generalize hdg : digs (val b * 2 ^ s) = dl at *
  have HDG := Lib.hid hdg
  have HVD := Lib.hid hvd
  have HUL0 := Lib.hid hul0
  have HP := Lib.hid hp
  have hmp : m ≤ p + 2 ∧ p + 2 ≤ m := by omega
  obtain ⟨hmp1, hmp2⟩ := hmp
  obtain ⟨gd, od, rfl, hgd, hxd⟩ := Rd.at_ (by rw [HDL.out]; omega)
  clear hdg hvd hul0 hdl2 hp g1 g2 g4 hpad O3 hb5 h00 O4 ha hb
  go_loopg [12] (a.length + 1 - m) (fun g iv wr => ∃ (jj : Int) (k : Nat) (ul ql : List Nat), k = g ∧ iv = .int .i64 jj ∧ Hid (jj = (k : Int) - 1) ∧ k ≤ a.length + 1 - m ∧ OW wr w3.heap.size (some ⟨gu, 0, none⟩) c5 ul ∧ Hid (ul.length = a.length + 1) ∧
      OW wr w5.heap.size (some ⟨w5.heap.size, 0, none⟩) (a.length + 1 - m) ql ∧ Hid (ql.length = a.length + 1 - m) ∧ Hid (Ov (val a * 2 ^ s) ul dl ql k) ∧ Below w3.heap.size w3 wr)
  case atStart => exact ⟨_, a.length + 1 - m, _, _, rfl, rfl, (by show _ = _; omega), Nat.le_refl _, O5, HUL0, O6, (by show _ = _; simp), hOv0, B36⟩
  case round =>
    obtain ⟨jj, k, ul, ql, rfl, rfl, hjj, hk, Ou, hlu, Oq, hlq, hOv, Bw⟩ := hrel
    by_cases h0 : 0 < k
    · obtain ⟨j, rfl⟩ : ∃ j, k = j + 1 := ⟨k - 1, by omega⟩
      obtain rfl : jj = (j : Int) := by have := hjj.out; omega
      have hjm : j + m < a.length + 1 := by omega
      have c0 := Ou.cell (k := j + m) (by rw [hlu.out]; omega)
      have c1 := Ou.cell (k := j + m - 1) (by rw [hlu.out]; omega)
      have c2 := Ou.cell (k := j + m - 2) (by rw [hlu.out]; omega)
      have d1 := (Bw.cell (p := ⟨gd, od + (m - 1), none⟩) hgd).trans (hxd (m - 1) (by rw [HDL.out]; omega))
      have d2 := (Bw.cell (p := ⟨gd, od + (m - 2), none⟩) hgd).trans (hxd (m - 2) (by rw [HDL.out]; omega))
      have i1 : IntKind.i64.wrap ((j : Int) + (m : Int)) = (j : Int) + (m : Int) := IntWalk.i64_in _ (by omega)
      have i2 : IntKind.i64.wrap ((j : Int) + (m : Int) - 1) = (j : Int) + (m : Int) - 1 := IntWalk.i64_in _ (by omega)
      have i3 : ((j : Int) + (m : Int)).toNat = j + m := by omega
      have i4 : ((j : Int) + (m : Int) - 1).toNat = j + m - 1 := by omega
      have x0l := wd_lt Ou.b32 (j + m)
      have x1l := wd_lt Ou.b32 (j + m - 1)
      have e1 := scat_or x0l x1l
      have hE := est_of Ou.b32 hbd HDL2.out hd31 (Ov_lt Ou.b32 (by rw [hlu.out]; omega) hOv.out) hOv.out.2.1
      rw [show j + (p + 2) = j + m by omega, show j + (p + 1) = j + m - 1 by omega, show j + p = j + m - 2 by omega, show p + 1 = m - 1 by omega, show p = m - 2 by omega] at hE
      have HE := Lib.hid hE
      have hv1 := hE.v1
      have hv1l := wd_lt hbd (m - 1)
      have hv2l := wd_lt hbd (m - 2)
      have x2l := wd_lt Ou.b32 (j + m - 2)
      clear hE
      have hst := Lib.hid (Es_start HE.out)
      have e2 : (scat (wd ul (j + m)) (wd ul (j + m - 1)) : Int) / (wd dl (m - 1) : Int) = (tq (scat (wd ul (j + m)) (wd ul (j + m - 1))) (wd dl (m - 1)) : Int) := by unfold tq; simp
      have e3 : (scat (wd ul (j + m)) (wd ul (j + m - 1)) : Int) % (wd dl (m - 1) : Int) = (tr (scat (wd ul (j + m)) (wd ul (j + m - 1))) (wd dl (m - 1)) : Int) := by unfold tr; simp
      have i5 : IntKind.i64.wrap ((m : Int) - 1) = (m : Int) - 1 := IntWalk.i64_in _ (by omega)
      have i6 : ((m : Int) - 1).toNat = m - 1 := by omega
      have hnz : ((wd dl (m - 1) : Int) == 0) = false := beq_eq_false_iff_ne.2 (by omega)
      have hsl := scat_lt x0l x1l
      have hrl : (tr (scat (wd ul (j + m)) (wd ul (j + m - 1))) (wd dl (m - 1))) ≤ 4294967295 := by have := hst.out.2.2; unfold tr scat; omega
      have wt : IntKind.u64.wrap (tq (scat (wd ul (j + m)) (wd ul (j + m - 1))) (wd dl (m - 1))) = (tq (scat (wd ul (j + m)) (wd ul (j + m - 1))) (wd dl (m - 1))) := u64_id (by omega) (by have : (tq (scat (wd ul (j + m)) (wd ul (j + m - 1))) (wd dl (m - 1))) ≤ scat (wd ul (j + m)) (wd ul (j + m - 1)) := Nat.div_le_self _ _; omega)
      have wtr : IntKind.u64.wrap (tr (scat (wd ul (j + m)) (wd ul (j + m - 1))) (wd dl (m - 1))) = (tr (scat (wd ul (j + m)) (wd ul (j + m - 1))) (wd dl (m - 1))) := u64_id (by omega) (by omega)
      go_wp2
      go_quiet (fail)
      go_wp2
      go_quiet (fail)
      go_upto_block 2 with fail
      go_cut [14] (fun s14 wx => ∃ t : Nat, s14 = .int .u64 (t : Int) ∧ Hid (Dg (val (ul.drop j)) (val dl) t) ∧ OW wx w3.heap.size (some ⟨gu, 0, none⟩) c5 ul ∧
        OW wx w5.heap.size (some ⟨w5.heap.size, 0, none⟩) (a.length + 1 - m) ql ∧ Below w3.heap.size w3 wx)
      case first =>
        --BEGIN
        go_wp2_with fail
        go_loopg [14, 15] (tq (scat (wd ul (j + m)) (wd ul (j + m - 1))) (wd dl (m - 1))) (fun g s14 s15 wx => ∃ t r : Nat, t = g ∧ s14 = .int .u64 (t : Int) ∧ s15 = .int .u64 (r : Int) ∧ r ≤ 4294967295 ∧
          Hid (Es (val (ul.drop j)) (val dl) (scat (wd ul (j + m)) (wd ul (j + m - 1))) (wd dl (m - 1)) t r) ∧ OW wx w3.heap.size (some ⟨gu, 0, none⟩) c5 ul ∧
          OW wx w5.heap.size (some ⟨w5.heap.size, 0, none⟩) (a.length + 1 - m) ql ∧ Below w3.heap.size w3 wx)
        case atStart => exact ⟨(tq (scat (wd ul (j + m)) (wd ul (j + m - 1))) (wd dl (m - 1))), (tr (scat (wd ul (j + m)) (wd ul (j + m - 1))) (wd dl (m - 1))), rfl, rfl, (congrArg _ e3), hrl, hst.out.1, (Ou.drewN _).drewN _, (Oq.drewN _).drewN _, bdN (bdN Bw _) _⟩
        case round =>
          obtain ⟨t, r, rfl, rfl, rfl, hr, hes, Ou', Oq', Bw'⟩ := hrel
          have htl := Es_t hes.out HE.out.v1 HE.out.top
          have c2' := Ou'.cell (k := j + m - 2) (by rw [hlu.out]; omega)
          have d1' := (Bw'.cell (p := ⟨gd, od + (m - 1), none⟩) hgd).trans (hxd (m - 1) (by rw [HDL.out]; omega))
          have d2' := (Bw'.cell (p := ⟨gd, od + (m - 2), none⟩) hgd).trans (hxd (m - 2) (by rw [HDL.out]; omega))
          clear c0 c1 c2 d1 d2 Ou Oq Bw e1 e2 e3 hst hsl wt wtr hrl hnz
          have l1 : IntKind.i64.wrap ((m : Int) - 2) = (m : Int) - 2 := IntWalk.i64_in _ (by omega)
          have l2 : ((m : Int) - 2).toNat = m - 2 := by omega
          have l3 : IntKind.i64.wrap ((j : Int) + (m : Int) - 2) = (j : Int) + (m : Int) - 2 := IntWalk.i64_in _ (by omega)
          have l4 : ((j : Int) + (m : Int) - 2).toNat = j + m - 2 := by omega
          have l5 : IntKind.u64.wrap ((r : Int) + (wd dl (m - 1) : Int)) = (rsum r (wd dl (m - 1)) : Int) := u64_id (by unfold rsum; omega) (by unfold rsum; omega)
          by_cases hc1 : 4294967295 < t
          · obtain ⟨ht1, hes'⟩ := Es_dec HE.out hes.out (Or.inl hc1)
            have hci : (4294967295 : Int) < (t : Int) := by omega
            have l6 : IntKind.u64.wrap ((t : Int) - 1) = (tpred t : Int) := u64_id (by unfold tpred; omega) (by unfold tpred; omega)
            by_cases hb : 4294967295 < rsum r (wd dl (m - 1))
            · have hbi : (4294967295 : Int) < (rsum r (wd dl (m - 1)) : Int) := by omega
              go_wp2
              go_quiet (fail)
              go_wp2
              go_meet
              exact ⟨_, rfl, Es_brk HE.out hes' hb, Ou'.drewN _, Oq'.drewN _, bdN Bw' _⟩
            · have hbi : ¬ (4294967295 : Int) < (rsum r (wd dl (m - 1)) : Int) := by omega
              have hbl : rsum r (wd dl (m - 1)) ≤ 4294967295 := by omega
              go_wp2
              go_quiet (fail)
              go_wp2
              go_roundg (t - 1)
              case measure => omega
              case rel => exact ⟨_, _, rfl, rfl, rfl, hbl, hes', Ou'.drewN _, Oq'.drewN _, bdN Bw' _⟩
          · have hci : ¬ (4294967295 : Int) < (t : Int) := by omega
            have cb : decide ((4294967295 : Int) < (t : Int)) = false := decide_eq_false hci
            have htv := tv_le (t := t) (v2 := wd dl (m - 2)) (by omega) hv2l
            have l7 : IntKind.u64.wrap ((t : Int) * (wd dl (m - 2) : Int)) = (tv t (wd dl (m - 2)) : Int) := u64_id (by unfold tv; simp) (by omega)
            have l8 := scat_or (r := r) (x := wd ul (j + m - 2)) (by omega) x2l
            by_cases hc2 : scat r (wd ul (j + m - 2)) < tv t (wd dl (m - 2))
            · obtain ⟨ht1, hes'⟩ := Es_dec HE.out hes.out (Or.inr hc2)
              have hci2 : (scat r (wd ul (j + m - 2)) : Int) < (tv t (wd dl (m - 2)) : Int) := by omega
              have l6 : IntKind.u64.wrap ((t : Int) - 1) = (tpred t : Int) := u64_id (by unfold tpred; omega) (by unfold tpred; omega)
              by_cases hb : 4294967295 < rsum r (wd dl (m - 1))
              · have hbi : (4294967295 : Int) < (rsum r (wd dl (m - 1)) : Int) := by omega
                go_wp2
                go_quiet (fail)
                go_wp2
                go_meet
                exact ⟨_, rfl, Es_brk HE.out hes' hb, Ou'.drewN _, Oq'.drewN _, bdN Bw' _⟩
              · have hbi : ¬ (4294967295 : Int) < (rsum r (wd dl (m - 1)) : Int) := by omega
                have hbl : rsum r (wd dl (m - 1)) ≤ 4294967295 := by omega
                go_wp2
                go_quiet (fail)
                go_wp2
                go_roundg (t - 1)
                case measure => omega
                case rel => exact ⟨_, _, rfl, rfl, rfl, hbl, hes', Ou'.drewN _, Oq'.drewN _, bdN Bw' _⟩
            · have hci2 : ¬ (scat r (wd ul (j + m - 2)) : Int) < (tv t (wd dl (m - 2)) : Int) := by omega
              go_wp2
              go_quiet (fail)
              go_wp2
              go_meet
              exact ⟨_, rfl, Es_end HE.out hes.out (by omega) (by unfold scat tv at hc2; omega), Ou'.drewN _, Oq'.drewN _, bdN Bw' _⟩
        --END
      case rest =>
        obtain ⟨t, rfl, hDg, Ou', Oq', Bw'⟩ := hcut
        clear c0 c1 c2 d1 d2 Ou Oq Bw e1 e2 e3 hst hsl x0l x1l x2l wt wtr hrl hnz
        go_upto_block 4 with fail
        go_wp2_with fail
        have hTop := Lib.hid (show w3.heap.size ≤ gu from by
          rcases Ou'.form with ⟨_, _, he⟩ | ⟨g, hg, hge⟩
          · rw [he] at hlu; exact absurd hlu.out (by simp)
          · cases hg; exact hge.1)
        go_loopg [16, 17, 150] m (fun g bv cv iv wx => ∃ (i c q : Nat) (u' : List Nat), i ≤ m ∧ m - i = g ∧ bv = .int .u64 (q : Int) ∧ cv = .int .u64 (c : Int) ∧ iv = .int .i64 (i : Int) ∧ q ≤ 1 ∧ c < 4294967296 ∧
          OW wx w3.heap.size (some ⟨gu, 0, none⟩) c5 u' ∧ Hid (Ms ul dl u' j t i c q) ∧ OW wx w5.heap.size (some ⟨w5.heap.size, 0, none⟩) (a.length + 1 - m) ql ∧ Below w3.heap.size w3 wx)
        case atStart => exact ⟨0, 0, 0, ul, Nat.zero_le _, rfl, rfl, rfl, rfl, by omega, by omega, Ou', Ms_start _ _ _ _, Oq', Bw'⟩
        case round =>
          obtain ⟨i, x, q, u', hi, rfl, rfl, rfl, rfl, hq, hx, Ou2, hMs, Oq2, Bw2⟩ := hrel
          by_cases hin : i < m
          · skip
            --BEGIN
            have hii : (i : Int) < (m : Int) := by omega
            have u1 := Ou2.cell (k := i + j) (by rw [hMs.out.1, hlu.out]; omega)
            have u1f := Ou2.frozen (i + j)
            have dc := (Bw2.cell (p := ⟨gd, od + i, none⟩) hgd).trans (hxd i (by rw [HDL.out]; omega))
            have hwi := wd_lt hbd i
            have hCl := msC_lt (c := x) (t := t) (x := wd dl i) hx hDg.out.1 hwi
            have l3 : IntKind.i64.wrap ((i : Int) + (j : Int)) = ((i + j : Nat) : Int) := by rw [IntWalk.i64_in _ (by omega)]; omega
            have hux := wd_lt Ou2.b32 (i + j)
            have hset := Ou2.set (i + j) (msF_lt (wd u' (i + j)) (msC x t (wd dl i)) q)
            have hfar := Oq2.far (p := ⟨gu, i + j, none⟩) (fun g hg => by cases hg; show w5.heap.size ≠ gu; omega) (.int .u32 (msF (wd u' (i + j)) (msC x t (wd dl i)) q : Nat))
            have hbel2 := Bw2.setCell (p := ⟨gu, i + j, none⟩) hTop.out (.int .u32 (msF (wd u' (i + j)) (msC x t (wd dl i)) q : Nat))
            have hst := Lib.hid (Ms_step (by rw [hlu.out]; omega) Ou2.b32 hq hMs.out)
            go_wp2
            go_roundg (m - (i + 1))
            case measure => omega
            case rel =>
              have f1 := (ms_x hux hx hDg.out.1 hwi hq).2
              have f2 := (ms_x hux hx hDg.out.1 hwi hq).1
              have f3 := ms_c hx hDg.out.1 hwi
              unfold msX at f1 f2
              rw [f1]
              exact ⟨i + 1, msC x t (wd dl i) / 4294967296, _, _, by omega, rfl, congrArg _ f2, by rw [f3]; rfl, by go_num, msB_le _ _ _, hCl.2, hset, hst, hfar, hbel2⟩
--END
          · obtain rfl : m = i := by omega
            have hii : ¬ (m : Int) < (m : Int) := by omega
            have hux := wd_lt Ou2.b32 (j + m)
            have u1 := Ou2.cell (k := j + m) (by rw [hMs.out.1, hlu.out]; omega)
            have u1f := Ou2.frozen (j + m)
            have q1 := Oq2.cell (k := j) (by rw [hlq.out]; omega)
            have q1f := Oq2.frozen j
            have hjl : j < ul.length := by rw [hlu.out]; omega
            have hjq : j < ql.length := by rw [hlq.out]; omega
            have ltc : (t : Int) % 4294967296 = (t : Int) := by have := hDg.out.1; omega
            by_cases hc : x + q ≤ wd u' (j + m)
            · skip
              --BEGIN
              obtain ⟨y, hy⟩ : ∃ y, y = wd u' (j + m) - x := ⟨_, rfl⟩
              obtain ⟨z, hz⟩ : ∃ z, z = wd u' (j + m) - (x + q) := ⟨_, rfl⟩
              have l1 : IntKind.u64.wrap ((wd u' (j + m) : Int) - (x : Int)) = (y : Int) := u64_id (by omega) (by omega)
              have l2 : IntKind.u64.wrap ((y : Int) - (q : Int)) = (z : Int) := u64_id (by omega) (by omega)
              have l4 : (z : Int) / 9223372036854775808 = 0 := by omega
              have l5 : (z : Int) % 4294967296 = (z : Int) := by omega
              have hno : Hid (val (u'.set (j + m) z) + t * val dl * Wp j = val ul) := by
                have := Ms_no (n := m) HDL.out (by rw [hlu.out]; omega) hMs.out (by rw [Nat.add_comm m j]; exact hc)
                rw [Nat.add_comm m j, ← hz] at this; exact this
              have hzl : z < 4294967296 := by omega
              have HZ := Lib.hid hz
              have HY := Lib.hid hy
              clear hz hy
              have hset := Ou2.set (j + m) hzl
              have hfar := Oq2.far (p := ⟨gu, j + m, none⟩) (fun g hg => by cases hg; show w5.heap.size ≠ gu; omega) (.int .u32 (z : Nat))
              have hbel2 := Bw2.setCell (p := ⟨gu, j + m, none⟩) hTop.out (.int .u32 (z : Nat))
              have hset2 := hfar.set j (show t < 4294967296 by have := hDg.out.1; omega)
              have hfar2 := hset.far (p := ⟨w5.heap.size, j, none⟩) (fun g hg => by cases hg; show gu ≠ w5.heap.size; omega) (.int .u32 (t : Nat))
              have hbel3 := hbel2.setCell (p := ⟨w5.heap.size, j, none⟩) (by show w3.heap.size ≤ w5.heap.size; have := hTop.out; omega) (.int .u32 (t : Nat))
              have q2 := hfar.cell (k := j) hjq
              have q2f := hfar.frozen j
              have hOv2 : Hid (Ov (val a * 2 ^ s) (u'.set (j + m) z) dl (ql.set j t) j) :=
                Ov_step hjl hjq (by rw [List.length_set]; exact hMs.out.1) (fun k hk => by rw [wd_set_ne (by omega)]; exact hMs.out.2.1 k hk) hOv.out hno.out hDg.out.2.1
              go_wp2
              go_roundg j
              case measure => omega
              case rel => exact ⟨_, j, _, _, rfl, rfl, (by show _ = _; first | rfl | omega), by omega, hfar2, (by show _ = _; rw [List.length_set, hMs.out.1]; exact hlu.out), hset2, (by show _ = _; rw [List.length_set]; exact hlq.out), hOv2, hbel3⟩
--END
            · obtain ⟨y, hy⟩ : ∃ y, y = (wd u' (j + m) + 18446744073709551616 - x) % 18446744073709551616 := ⟨_, rfl⟩
              obtain ⟨zz, hzz⟩ : ∃ zz, zz = wd u' (j + m) + 18446744073709551616 - (x + q) := ⟨_, rfl⟩
              obtain ⟨z, hz⟩ : ∃ z, z = wd u' (j + m) + 4294967296 - (x + q) := ⟨_, rfl⟩
              have l1 : IntKind.u64.wrap ((wd u' (j + m) : Int) - (x : Int)) = (y : Int) := by rw [IntKind.wrap_u64]; omega
              have l2 : IntKind.u64.wrap ((y : Int) - (q : Int)) = (zz : Int) := by rw [IntKind.wrap_u64]; omega
              have l4 : (zz : Int) / 9223372036854775808 = 1 := by omega
              have l5 : (zz : Int) % 4294967296 = (z : Int) := by omega
              have hzl : z < 4294967296 := by omega
              have hyes : val (u'.set (j + m) z) + t * val dl * Wp j = val ul + Wp (m + j + 1) := by
                have := Ms_yes (n := m) HDL.out (by rw [hlu.out]; omega) hMs.out (by rw [Nat.add_comm m j]; omega) (by omega)
                rw [Nat.add_comm m j, ← hz] at this; rw [Nat.add_comm m j]; exact this
              have hzero : ∀ k, m + j + 1 ≤ k → wd ul k = 0 := fun k hk => by
                have h1 := wd_zero_of (l := ul.drop (j + 1)) (k := m) (t := k - (j + 1)) (B32_drop Ou'.b32 _) (Nat.lt_trans hOv.out.2.1 (by have := val_lt hbd; rw [HDL.out] at this; exact this)) (by omega)
                rw [wd_drop, show j + 1 + (k - (j + 1)) = k by omega] at h1; exact h1
              have hset := Ou2.set (j + m) hzl
              have hzero2 : ∀ k, m + j + 1 ≤ k → wd (u'.set (j + m) z) k = 0 := fun k hk => by rw [wd_set_ne (by omega), hMs.out.2.2.1 k (by omega)]; exact hzero k hk
              have hdy := dg_yes (val_take_drop ul j (by omega)) (val_lt_of_zero hset.b32 hzero2) hyes hDg.out.2.2
              have ht1 := hdy.1
              have HDY := Lib.hid hdy
              have HZ2 := Lib.hid hzero2
              have HZ := Lib.hid hz
              have hlen2 : Hid ((u'.set (j + m) z).length = a.length + 1) := by show _ = _; rw [List.length_set, hMs.out.1]; exact hlu.out
              have hlow2 : Hid (∀ k, k < j → wd (u'.set (j + m) z) k = wd ul k) := fun k hk => by rw [wd_set_ne (by omega)]; exact hMs.out.2.1 k hk
              clear hz hy hzz hyes hzero hzero2 hdy
              have hfar := Oq2.far (p := ⟨gu, j + m, none⟩) (fun g hg => by cases hg; show w5.heap.size ≠ gu; omega) (.int .u32 (z : Nat))
              have hbel2 := Bw2.setCell (p := ⟨gu, j + m, none⟩) hTop.out (.int .u32 (z : Nat))
              have l6 : IntKind.u64.wrap ((t : Int) - 1) = (tpred t : Int) := u64_id (by unfold tpred; omega) (by unfold tpred; have := hDg.out.1; omega)
              generalize u'.set (j + m) z = u2 at *
              go_wp2
              clear u1 u1f q1 q1f
              go_loopg [21, 210] m (fun g cv iv wx => ∃ (i c : Nat) (v : List Nat), i ≤ m ∧ m - i = g ∧ cv = .int .u32 (c : Int) ∧ iv = .int .i64 (i : Int) ∧ c ≤ 1 ∧
                OW wx w3.heap.size (some ⟨gu, 0, none⟩) c5 v ∧ Hid (Ab u2 dl v j i c) ∧ OW wx w5.heap.size (some ⟨w5.heap.size, 0, none⟩) (a.length + 1 - m) ql ∧ Below w3.heap.size w3 wx)
              case atStart => exact ⟨0, 0, u2, Nat.zero_le _, rfl, rfl, rfl, by omega, hset, Ab_start _ _ _, hfar, hbel2⟩
              case round =>
                obtain ⟨i, cc, v, hi, rfl, rfl, rfl, hcc, Ov3, hAb, Oq3, Bw3⟩ := hrel
                by_cases hin : i < m
                · skip
                  --BEGIN
                  have hii : (i : Int) < (m : Int) := by omega
                  have hvl : v.length = a.length + 1 := by rw [hAb.out.1]; exact hlen2.out
                  have hij : i + j < v.length := by omega
                  have v1 := Ov3.cell hij
                  have v1f := Ov3.frozen (i + j)
                  have dc := (Bw3.cell (p := ⟨gd, od + i, none⟩) hgd).trans (hxd i (by rw [HDL.out]; omega))
                  have hwv := wd_lt Ov3.b32 (i + j)
                  have hwd := wd_lt hbd i
                  have m3 : IntKind.i64.wrap ((i : Int) + (j : Int)) = (i : Int) + (j : Int) := IntWalk.i64_in _ (by omega)
                  have m4 : ((i : Int) + (j : Int)).toNat = i + j := by omega
                  have m5 : (i : Int) + (j : Int) < (a.length : Int) + 1 := by omega
                  have m6 : 0 ≤ (i : Int) + (j : Int) := by omega
                  have hst2 := Lib.hid (Ab_step (d := dl) (by rw [← hAb.out.1]; exact hij) hAb.out)
                  have hset3 := Ov3.set (i + j) (addf_lt (wd v (i + j)) (wd dl i) cc)
                  have hcl := addc_le hwv hwd hcc
                  have hfar3 := Oq3.far (p := ⟨gu, i + j, none⟩) (fun g hg => by cases hg; show w5.heap.size ≠ gu; omega) (.int .u32 (addf (wd v (i + j)) (wd dl i) cc : Nat))
                  have hbel3 := Bw3.setCell (p := ⟨gu, i + j, none⟩) hTop.out (.int .u32 (addf (wd v (i + j)) (wd dl i) cc : Nat))
                  have hadd := add32_any (wd v (i + j)) (wd dl i) cc
                  have HVL := Lib.hid hvl
                  clear hvl
                  go_wp2
                  go_region_with (first | (go_at_call 66; refine (hadd _ hwv hwd hcc).mono ?_; rintro e w' ⟨rfl, rfl⟩))
                  all_goals
                    go_wp2
                    go_roundg (m - (i + 1))
                    case measure => omega
                    case rel => exact ⟨i + 1, _, _, by omega, rfl, rfl, by go_num, hcl, hset3.drewN _, hst2, hfar3.drewN _, bdN hbel3 _⟩
--END
                · obtain rfl : m = i := by omega
                  have hii : ¬ (m : Int) < (m : Int) := by omega
                  have hvl : v.length = a.length + 1 := by rw [hAb.out.1]; exact hlen2.out
                  have v1 := Ov3.cell (k := j + m) (by rw [hvl]; omega)
                  have v1f := Ov3.frozen (j + m)
                  have hwv := wd_lt Ov3.b32 (j + m)
                  obtain ⟨z2, hz2⟩ : ∃ z2, z2 = (wd v (j + m) + cc) % 4294967296 := ⟨_, rfl⟩
                  have hz2l : z2 < 4294967296 := by omega
                  have m7 : ((wd v (j + m) : Int) + (cc : Int)) % 4294967296 = (z2 : Int) := by omega
                  have hfin : val (v.set (j + m) z2) = val ul - (t - 1) * val dl * Wp j := by
                    have := Ab_end (n := m) Ov3.b32 HDL.out (by rw [hlen2.out]; omega) HZ2.out hAb.out hcc HDY.out.2.2.1
                    rw [Nat.add_comm m j, ← hz2] at this; exact this
                  have HZ3 := Lib.hid hz2
                  have hset4 := Ov3.set (j + m) hz2l
                  have hfar4 := Oq3.far (p := ⟨gu, j + m, none⟩) (fun g hg => by cases hg; show w5.heap.size ≠ gu; omega) (.int .u32 (z2 : Nat))
                  have hbel4 := Bw3.setCell (p := ⟨gu, j + m, none⟩) hTop.out (.int .u32 (z2 : Nat))
                  have htl : tpred t < 4294967296 := by unfold tpred; have := hDg.out.1; omega
                  have ltc2 : (tpred t : Int) % 4294967296 = (tpred t : Int) := by omega
                  have hset5 := hfar4.set j htl
                  have hfar5 := hset4.far (p := ⟨w5.heap.size, j, none⟩) (fun g hg => by cases hg; show gu ≠ w5.heap.size; omega) (.int .u32 (tpred t : Nat))
                  have hbel5 := hbel4.setCell (p := ⟨w5.heap.size, j, none⟩) (by show w3.heap.size ≤ w5.heap.size; have := hTop.out; omega) (.int .u32 (tpred t : Nat))
                  have q2 := hfar4.cell (k := j) hjq
                  have q2f := hfar4.frozen j
                  have hOv2 : Hid (Ov (val a * 2 ^ s) (v.set (j + m) z2) dl (ql.set j (tpred t)) j) :=
                    Ov_step hjl hjq (by rw [List.length_set, hvl, hlu.out]) (fun k hk => by rw [wd_set_ne (by omega), hAb.out.2.1 k hk]; exact hlow2.out k hk) hOv.out (by rw [hfin]; exact HDY.out.2.2.2) HDY.out.2.1
                  have HVL := Lib.hid hvl
                  clear hvl hfin hz2
                  go_wp2
                  go_roundg j
                  case measure => omega
                  case rel => exact ⟨_, j, _, _, rfl, rfl, (by show _ = _; first | rfl | omega), by omega, hfar5, (by show _ = _; rw [List.length_set]; exact HVL.out), hset5, (by show _ = _; rw [List.length_set]; exact hlq.out), hOv2, hbel5⟩
    · obtain rfl : k = 0 := by omega
      obtain rfl : jj = -1 := by have := hjj.out; omega
      have hend := Ov_end hOv.out
      have hp2 : 0 < 2 ^ s := Nat.pow_pos (by omega)
      have hQ : val ql = val a / val b := by rw [hend.1, HVD.out, Nat.mul_div_mul_right _ _ hp2]
      have hR0 : val ul = val a % val b * 2 ^ s := by rw [hend.2, HVD.out, Nat.mul_mod_mul_right]
      have hR : val (ul.take m) = val a % val b * 2 ^ s := by
        rw [← hR0]
        refine val_take_of Ou.b32 ?_
        have h1 := hOv.out.2.1
        rw [List.drop_zero] at h1
        have h2 := val_lt hbd
        rw [HDL.out] at h2
        omega
      have hmc : m ≤ c5 := by have := Ou.lc; rw [hlu.out] at this; omega
      have hn1 := fun w' (h : RW w' w'.heap.size (some ⟨w5.heap.size, 0, none⟩) (a.length + 1 - m) ql) => norm_any (some ⟨w5.heap.size, 0, none⟩) (a.length + 1 - m) (a.length + 1 - m) ql w' hlq.out.symm h
      have hn2 := fun w' (h : RW w' w'.heap.size (some ⟨gu, 0, none⟩) c5 (ul.take m)) => norm_any (some ⟨gu, 0, none⟩) c5 m (ul.take m) w' (by rw [List.length_take, hlu.out]; omega) h
      have hdn := fun w' (h : RW w' w'.heap.size (some ⟨gu, 0, none⟩) c5 (digs (val a % val b * 2 ^ s))) => down_any (some ⟨gu, 0, none⟩) c5 (digs (val a % val b * 2 ^ s)).length (digs (val a % val b * 2 ^ s)) w' s (by omega) rfl h
      simp only [hQ] at hn1
      simp only [hR] at hn2
      simp only [val_digs, Nat.mul_div_cancel _ hp2] at hdn
      have rq := Oq.rw
      have ru := Ou.rw.take m
      have rd := ru.norm
      have Oqn := Oq.norm
      rw [hR] at rd
      rw [hQ] at Oqn
      have BwA := B03.trans (Bw.mono B03.size)
      have hwq : w.heap.size ≤ w5.heap.size := by have h1 := O5.lt.1; have h2 := B03.size; omega
      have HQ := Lib.hid hQ
      have HR := Lib.hid hR
      have HE := Lib.hid hend
      clear hQ hR hR0 hend
      go_wp2
      go_region_with (first
        | (go_at_call_of 49 (w5.heap.size); refine (hn1 _ ?_).mono ?_; (first | exact rq.drewN _ | exact ((Oq.drewN 1).below (by assumption) (Nat.le_refl _)).rw); rintro e w' ⟨rfl, rfl⟩)
        | (go_at_call_of 49 gu; refine (hn2 _ ?_).mono ?_; (exact ru.drewN _); rintro e w' ⟨rfl, rfl⟩)
        | (go_at_call 50; refine (hdn _ ?_).mono ?_; (exact rd.drewN _); rintro e w7 ⟨A7, c7, rfl, O7, B7⟩))
      all_goals
        go_wp2
        go_ret2
        exact ⟨_, _, _, _, rfl, ((Oqn.drewN 1).below B7 (Nat.le_refl _)).base_le hwq, O7.base_le BwA.size, (bdN BwA 1).trans (B7.mono BwA.size)⟩
end Go.Proofs.YtbgggepdlkbpoaaGreatDoor
namespace Go.Proofs.YtbgggepdlkbpoaaGreatDoor
open Go.RowKit

theorem wd_of_one {b : List Nat} (h : b.length = 1) : b = [wd b 0] := by
  match b, h with
  | [x], _ => rfl

set_option maxRecDepth 100000 in
set_option maxHeartbeats 2000000 in
theorem over_any (A D : Option Addr) (c d n m : Nat) (a b : List Nat) (w : World) (hn : n = a.length) (hm : m = b.length) (ha : RW w w.heap.size A c a) (hb : RW w w.heap.size D d b) (na : Nrm a) (nb : Nrm b) (h0 : val b ≠ 0) (hla : a.length ≤ 8796093022208) :
    Calls Tryz.prog 69 #[.slice A n c, .slice D m d] w (RetQ w (val a / val b) (val a % val b)) := by
  subst hn; subst hm
  have ba := ha.b32
  have bb := hb.b32
  have hor := order_any A D c d _ _ a b w rfl rfl ha hb na nb
  by_cases hlt : val a < val b
  · have hcmp : cmpN (val a) (val b) = -1 := by unfold cmpN; rw [if_pos hlt]
    rw [hcmp] at hor
    have hcl := fun q0 => clone_any A c a.length a (w.drewN q0) rfl (ha.drewN q0)
    have hq : val a / val b = 0 := Nat.div_eq_of_lt hlt
    have hr : digs (val a % val b) = a := by rw [Nat.mod_eq_of_lt hlt, digs_val ba na]
    have HQ := Lib.hid hq
    have HR := Lib.hid hr
    clear hq hr hlt hcmp ha hb
    go_enter Tryz.func69, Tryz.ntmps69
    go_wp2_with fail
    refine hor.mono ?_; rintro e w1 ⟨rfl, q0, rfl⟩
    go_wp2_with fail
    refine (hcl q0).mono ?_; rintro e w2 ⟨A2, c2, rfl, O2, B2⟩
    go_wp2_with fail
    go_ret2
    rw [HQ.out]
    refine ⟨none, 0, A2, c2, by rw [digs_zero, HR.out]; rfl, by rw [digs_zero]; exact OW.nil _ _, by rw [HR.out]; exact O2, (bdN (Below.refl _ _) q0).trans B2⟩
  · have hll := len_of_le ba nb (by omega)
    have hb0 : 0 < b.length := by
      rcases Nat.eq_zero_or_pos b.length with h | h
      · rw [List.length_eq_zero_iff] at h; subst h; exact absurd rfl h0
      · exact h
    by_cases h1 : b.length = 1
    · have hcmp : ¬ cmpN (val a) (val b) < 0 := by unfold cmpN; split <;> (try split) <;> omega
      obtain ⟨b1, o1, rfl, hlt1, hx⟩ := hb.at_ hb0
      have hx0 := hx 0 hb0
      rw [Nat.add_zero] at hx0
      have e1 := wd_of_one h1
      have hv : val b = wd b 0 := by rw [e1]; simp [val, wd]
      have hwl := wd_lt bb 0
      have hxl := Nat.mod_lt (val a) (show 0 < wd b 0 by omega)
      have hsh := fun q0 => short_any A c a.length a (wd b 0) (w.drewN q0) (by omega) hwl rfl (ha.drewN q0)
      have hle : a.length ≤ 35184372088832 := ha.big
      have hlen1 : ((b.length : Int) == 1) = true := by rw [h1]; rfl
      have hi0 : (0 : Int) < (b.length : Int) := by omega
      generalize hr : val a % wd b 0 = r at *
      have hnm := fun (w1 : World) => norm_any (some ⟨w1.heap.size, 0, none⟩) 1 1 [r] (w1.alloc (.cells #[.int .u32 (r : Int)] 55)) rfl ((RW.one w1 55 (show r < 4294967296 by omega)).more (by simp))
      have hol := fun (w1 : World) => (OW.lit w1 [r] (by simp) (B32_cons (show r < 4294967296 by omega) B32_nil)).norm
      rw [val_one] at hnm
      simp only [val_one] at hol
      rw [hv]
      rw [hr]
      generalize cmpN (val a) (val b) = cmp at *
      have HR := Lib.hid hr
      clear hr hv hx e1 hb ha h0 hxl h1 hll
      go_enter Tryz.func69, Tryz.ntmps69
      go_wp2_with fail
      refine hor.mono ?_; rintro e w1 ⟨rfl, q0, rfl⟩
      go_wp2_with fail
      go_at_call 71
      refine (hsh q0).mono ?_; rintro e w2 ⟨A2, c2, rfl, O2, B2⟩
      go_wp2_with fail
      refine (hnm _).mono ?_; rintro e w3 ⟨rfl, rfl⟩
      go_wp2_with fail
      go_ret2
      have B0 := (bdN (Below.refl w.heap.size w) q0).trans B2
      exact ⟨A2, c2, _, 1, rfl, O2.alloc _, (hol _).base_le B0.size, B0.alloc B0.size _⟩
    · exact over_main A D c d b.length a b w ha hb na nb rfl (by omega) (by omega) hla
end Go.Proofs.YtbgggepdlkbpoaaGreatDoor
namespace Go.Proofs.YtbgggepdlkbpoaaGreatDoor
open Go.RowKit

/-- an answer of Div: a quotient, what is left, an error's number -/
def RetD (w : World) (r : Nat × Nat × Int) (e : Ending) (w' : World) : Prop :=
  ∃ A1 c1 A2 c2, e = .returned (.tuple #[.slice A1 (digs r.1).length c1, .slice A2 (digs r.2.1).length c2, .int .i64 r.2.2]) ∧
    OW w' w.heap.size A1 c1 (digs r.1) ∧ OW w' w.heap.size A2 c2 (digs r.2.1) ∧ Below w.heap.size w w'
theorem retD_nil {w w' : World} (k : Int) (hb : Below w.heap.size w w') : RetD w (0, 0, k) (.returned (.tuple #[.slice none 0 0, .slice none 0 0, .int .i64 k])) w' :=
  ⟨none, 0, none, 0, by rw [digs_zero]; rfl, by rw [digs_zero]; exact OW.nil _ _, by rw [digs_zero]; exact OW.nil _ _, hb⟩
theorem nrm_pos {l : List Nat} (hn : Nrm l) (hb : B32 l) (h : 0 < l.length) : val l ≠ 0 := by
  intro h0
  have := digs_val hb hn
  rw [h0, digs_zero] at this
  rw [← this] at h; simp at h
def divA (a b : List Nat) : Nat × Nat × Int := if chk2 a b then (if b.length = 0 then (0, 0, 3) else (val a / val b, val a % val b, 0)) else (0, 0, 2)
theorem gcd_step (x y : Nat) : Nat.gcd y (x % y) = Nat.gcd x y := by
  rw [Nat.gcd_comm y, ← Nat.gcd_rec, Nat.gcd_comm]
set_option maxHeartbeats 1000000 in
theorem divisor_any (A D : Option Addr) (c d n m : Nat) (a b : List Nat) (w : World) (hn : n = a.length) (hm : m = b.length) (ha : RW w w.heap.size A c a) (hb : RW w w.heap.size D d b) (na : Nrm a) (nb : Nrm b)
    (hla : a.length ≤ 8796093022208) (hlb : b.length ≤ 8796093022208) :
    Calls Tryz.prog 68 #[.slice A n c, .slice D m d] w (RetW w (Nat.gcd (val a) (val b))) := by
  subst hn hm
  have HA := Lib.hid ha
  have HB := Lib.hid hb
  clear ha hb
  go_enter Tryz.func68, Tryz.ntmps68
  go_wp2_with fail
  go_loopg [0, 1] (val b) (fun g av bv wr => ∃ (Aa Da : Option Addr) (ca da : Nat) (la lb : List Nat), val lb = g ∧ av = .slice Aa la.length ca ∧ bv = .slice Da lb.length da ∧ RW wr wr.heap.size Aa ca la ∧ RW wr wr.heap.size Da da lb ∧
      Hid (Nrm la) ∧ Hid (Nrm lb) ∧ la.length ≤ 8796093022208 ∧ lb.length ≤ 8796093022208 ∧ Hid (Nat.gcd (val la) (val lb) = Nat.gcd (val a) (val b)) ∧ Below w.heap.size w wr)
  case atStart => exact ⟨A, D, c, d, a, b, rfl, rfl, rfl, HA.out, HB.out, na, nb, hla, hlb, rfl, Below.refl _ _⟩
  case round =>
    obtain ⟨Aa, Da, ca, da, la, lb, rfl, rfl, rfl, ra, rb, nla, nlb, ll1, ll2, hg, B⟩ := hrel
    by_cases h0 : 0 < lb.length
    · have hv := nrm_pos nlb.out rb.b32 h0
      have hov := over_any Aa Da ca da _ _ la lb wr rfl rfl ra rb nla.out nlb.out hv ll1
      have hlt : val la % val lb < val lb := Nat.mod_lt _ (by omega)
      have hl3 : (digs (val la % val lb)).length ≤ lb.length := digs_len_le.2 (Nat.lt_trans hlt (val_lt rb.b32))
      have hg2 : Hid (Nat.gcd (val lb) (val (digs (val la % val lb))) = Nat.gcd (val a) (val b)) := by show _ = _; rw [val_digs, gcd_step]; exact hg.out
      have HLT := Lib.hid hlt
      clear hlt
      go_wp2_with fail
      refine hov.mono ?_; rintro e w2 ⟨A1, c1, A2, c2, rfl, O1, O2, B2⟩
      go_wp2_with fail
      go_roundg (val (digs (val la % val lb)))
      case measure => rw [val_digs]; exact HLT.out
      case rel => exact ⟨Da, A2, da, c2, lb, _, rfl, rfl, rfl, rb.step B2 B2.size, O2.rw, nlb, Nrm_digs _, ll2, by omega, hg2, B.trans (B2.mono B.size)⟩
    · have hl0 : lb = [] := List.eq_nil_of_length_eq_zero (by omega)
      subst hl0
      have hcl := clone_any Aa ca la.length la wr rfl ra
      have hfin : Nat.gcd (val a) (val b) = val la := by rw [← hg.out, show val ([] : List Nat) = 0 from rfl, Nat.gcd_zero_right]
      have hda : la = digs (val la) := (digs_val ra.b32 nla.out).symm
      have HF := Lib.hid hfin
      have HD := Lib.hid hda
      clear hfin hda
      go_wp2_with fail
      refine hcl.mono ?_; rintro e w2 ⟨A2, c2, rfl, O2, B2⟩
      go_wp2_with fail
      go_ret
      rw [HF.out]
      rw [HD.out] at O2
      exact ⟨A2, c2, by rw [← HD.out]; rfl, O2.base_le B.size, B.trans (B2.mono B.size)⟩

def gcdA (a b : List Nat) : Nat × Int := if chk2 a b then (Nat.gcd (val a) (val b), 0) else (0, 2)
end Go.Proofs.YtbgggepdlkbpoaaGreatDoor
namespace Go.Proofs.YtbgggepdlkbpoaaGreatDoor

/-- below 0? -/
def qn (q : Rat) : Bool := decide (q.num < 0)
/-- the top, without its sign -/
def qt (q : Rat) : Nat := q.num.natAbs
/-- the bottom -/
def qd (q : Rat) : Nat := q.den
/-- a fraction in lowest terms -/
def ratN (neg : Bool) (n d : Nat) : Rat := mkRat (if neg = true then -(n : Int) else n) d
/-- its words -/
def qw (q : Rat) : Nat := max (digs (qt q)).length (digs (qd q)).length

theorem qd_pos (q : Rat) : qd q ≠ 0 := q.den_nz
theorem q_num (q : Rat) : q.num = if qn q = true then -(qt q : Int) else (qt q : Int) := by
  unfold qn qt
  by_cases h : q.num < 0
  · rw [if_pos (by simp [h])]; omega
  · rw [if_neg (by simp [h])]; omega
theorem q_cop (q : Rat) : Nat.gcd (qt q) (qd q) = 1 := q.reduced
theorem qn_zero {q : Rat} (h : qt q = 0) : qn q = false := by
  unfold qt at h; unfold qn; rw [decide_eq_false_iff_not]; omega
theorem q_ext {p q : Rat} (h1 : qn p = qn q) (h2 : qt p = qt q) (h3 : qd p = qd q) : p = q := by
  apply Rat.ext
  · rw [q_num, q_num, h1, h2]
  · exact h3
theorem q_self (q : Rat) : ratN (qn q) (qt q) (qd q) = q := by
  unfold ratN; rw [← q_num]; exact Rat.mkRat_self q
theorem ratN_d (neg : Bool) (n d : Nat) (hd : d ≠ 0) : qd (ratN neg n d) = d / Nat.gcd n d := by
  unfold qd ratN
  rw [Rat.den_mkRat, if_neg hd]
  congr 1
  rw [Nat.gcd_comm]
  congr 1
  cases neg <;> simp
theorem gcd_dvd_top {n d : Nat} : ((Nat.gcd n d : Nat) : Int) ∣ (n : Int) := Int.ofNat_dvd.2 (Nat.gcd_dvd_left n d)
theorem ratN_num (neg : Bool) (n d : Nat) (hd : d ≠ 0) : (ratN neg n d).num = if neg = true then -((n / Nat.gcd n d : Nat) : Int) else ((n / Nat.gcd n d : Nat) : Int) := by
  unfold ratN
  rw [Rat.num_mkRat, if_neg hd]
  have e : d.gcd (if neg = true then -(n : Int) else (n : Int)).natAbs = Nat.gcd n d := by
    rw [Nat.gcd_comm]; congr 1; cases neg <;> simp
  rw [e]
  cases neg with
  | true => rw [if_pos rfl, if_pos rfl, Int.neg_ediv_of_dvd gcd_dvd_top]; simp
  | false => rw [if_neg (by simp), if_neg (by simp)]; simp
theorem ratN_t (neg : Bool) (n d : Nat) (hd : d ≠ 0) : qt (ratN neg n d) = n / Nat.gcd n d := by
  unfold qt; rw [ratN_num neg n d hd]; cases neg
  · rw [if_neg (by simp)]; exact Int.natAbs_natCast _
  · rw [if_pos rfl, Int.natAbs_neg]; exact Int.natAbs_natCast _
theorem ratN_n (neg : Bool) (n d : Nat) (hd : d ≠ 0) : qn (ratN neg n d) = (neg && decide (0 < n / Nat.gcd n d)) := by
  unfold qn; rw [ratN_num neg n d hd]; cases neg
  · rw [if_neg (by simp), Bool.false_and, decide_eq_false_iff_not]; exact Int.not_lt.2 (Int.natCast_nonneg _)
  · rw [if_pos rfl, Bool.true_and]
    by_cases h : 0 < n / Nat.gcd n d
    · rw [decide_eq_true h, decide_eq_true_eq]; generalize n / Nat.gcd n d = k at h ⊢; omega
    · rw [decide_eq_false h, decide_eq_false_iff_not]; generalize n / Nat.gcd n d = k at h ⊢; omega
theorem q_sum_same {p q : Rat} (h : qn p = qn q) : ratN (qn p) (qt p * qd q + qt q * qd p) (qd p * qd q) = p + q := by
  rw [Rat.add_def']
  unfold ratN
  rw [q_num p, q_num q, ← h]
  show mkRat _ (p.den * q.den) = _
  congr 1
  unfold qd
  cases qn p
  · simp
  · simp only [if_true, Int.natCast_add, Int.natCast_mul, Int.neg_mul]; omega
theorem q_sum_left {p q : Rat} (h : qn p ≠ qn q) (hle : qt q * qd p ≤ qt p * qd q) : ratN (qn p) (qt p * qd q - qt q * qd p) (qd p * qd q) = p + q := by
  rw [Rat.add_def']
  unfold ratN
  rw [q_num p, q_num q]
  show mkRat _ (p.den * q.den) = _
  congr 1
  rw [Int.ofNat_sub hle]
  unfold qd
  unfold qd at hle
  rw [Int.natCast_mul, Int.natCast_mul]
  revert h
  cases qn p <;> cases qn q <;> intro h
  · exact absurd rfl h
  · rw [if_neg (by simp), if_neg (by simp), if_pos rfl, Int.neg_mul]; omega
  · rw [if_pos rfl, if_pos rfl, if_neg (by simp), Int.neg_mul]; omega
  · exact absurd rfl h
theorem q_sum_right {p q : Rat} (h : qn p ≠ qn q) (hle : qt p * qd q ≤ qt q * qd p) : ratN (qn q) (qt q * qd p - qt p * qd q) (qd p * qd q) = p + q := by
  rw [Rat.add_comm, Nat.mul_comm (qd p)]
  exact q_sum_left (fun e => h e.symm) hle
theorem q_mul (p q : Rat) : ratN (qn p != qn q) (qt p * qt q) (qd p * qd q) = p * q := by
  rw [Rat.mul_def']
  unfold ratN
  rw [q_num p, q_num q]
  show mkRat _ (p.den * q.den) = _
  congr 1
  rw [Int.natCast_mul]
  cases qn p <;> cases qn q
  · rfl
  · exact (Int.mul_neg _ _).symm
  · exact (Int.neg_mul _ _).symm
  · exact (Int.neg_mul_neg _ _).symm
theorem q_neg_t (p : Rat) : qt (-p) = qt p := by unfold qt; rw [Rat.neg_num, Int.natAbs_neg]
theorem q_neg_d (p : Rat) : qd (-p) = qd p := rfl
theorem q_neg_n (p : Rat) : qn (-p) = (!qn p && decide (0 < qt p)) := by
  unfold qn qt; rw [Rat.neg_num]
  by_cases h1 : p.num < 0
  · simp [h1]; omega
  · by_cases h2 : p.num = 0
    · simp [h2]
    · have h3 : 0 < p.num := by omega
      simp [h1, h2]; exact h3
theorem ratN_facts (neg : Bool) (n d : Nat) (hd : d ≠ 0) : qn (ratN neg n d) = (neg && decide (0 < n / Nat.gcd n d)) ∧ qt (ratN neg n d) = n / Nat.gcd n d ∧ qd (ratN neg n d) = d / Nat.gcd n d := ⟨ratN_n _ _ _ hd, ratN_t _ _ _ hd, ratN_d _ _ _ hd⟩
/-- a fraction that is sound is a rational number -/
theorem q_of {neg : Bool} {n d : Nat} (hd : d ≠ 0) (hg : Nat.gcd n d = 1) (h0 : n = 0 → neg = false) : ∃ q : Rat, qn q = neg ∧ qt q = n ∧ qd q = d := by
  refine ⟨ratN neg n d, ?_, ?_, ?_⟩
  · rw [ratN_n _ _ _ hd, hg, Nat.div_one]
    cases neg
    · rfl
    · have : n ≠ 0 := fun h => by have := h0 h; cases this
      rw [decide_eq_true (by omega)]; rfl
  · rw [ratN_t _ _ _ hd, hg, Nat.div_one]
  · rw [ratN_d _ _ _ hd, hg, Nat.div_one]
theorem q_inv_t {q : Rat} (h : qn q = false) (h0 : qt q ≠ 0) : qt q⁻¹ = qd q ∧ qd q⁻¹ = qt q ∧ qn q⁻¹ = false := by
  have hn : q.num = (qt q : Int) := by rw [q_num, h]; rfl
  have e : q⁻¹ = ratN false (qd q) (qt q) := by
    rw [Rat.inv_def, hn, Rat.divInt_ofNat]; rfl
  have hg : Nat.gcd (qd q) (qt q) = 1 := by rw [Nat.gcd_comm]; exact q_cop q
  rw [e, ratN_t _ _ _ h0, ratN_d _ _ _ h0, ratN_n _ _ _ h0, hg, Nat.div_one, Nat.div_one]
  exact ⟨rfl, rfl, rfl⟩
theorem qt_zero {q : Rat} : qt q = 0 ↔ q = 0 := by
  unfold qt; rw [Int.natAbs_eq_zero]; exact Rat.num_eq_zero
theorem qn_iff {q : Rat} : qn q = true ↔ q < 0 := by
  unfold qn; rw [decide_eq_true_eq, Rat.lt_iff]; simp
/-- whole numbers -/
theorem qt_int (i : Int) : qt (i : Rat) = i.natAbs := rfl
theorem qd_int (i : Int) : qd (i : Rat) = 1 := rfl
theorem qn_int (i : Int) : qn (i : Rat) = decide (i < 0) := rfl
theorem ratN_whole (neg : Bool) (n : Nat) : ratN neg n 1 = ((if neg = true then -(n : Int) else (n : Int) : Int) : Rat) := by
  unfold ratN
  exact Rat.mkRat_one _
/-- words -/
theorem digs_mono {a b : Nat} (h : a ≤ b) : (digs a).length ≤ (digs b).length := by
  rw [digs_len_le]
  exact Nat.lt_of_le_of_lt h (digs_len_le.1 (Nat.le_refl _))
theorem digs_mul (a b : Nat) : (digs (a * b)).length ≤ (digs a).length + (digs b).length := by
  rw [digs_len_le, Wp_add]
  have ha := digs_len_le.1 (Nat.le_refl (digs a).length)
  have hb := digs_len_le.1 (Nat.le_refl (digs b).length)
  exact Nat.mul_lt_mul'' ha hb
theorem digs_add {a b k : Nat} (ha : (digs a).length ≤ k) (hb : (digs b).length ≤ k) : (digs (a + b)).length ≤ k + 1 := by
  rw [digs_len_le, Wp_succ]
  have h1 := digs_len_le.1 ha
  have h2 := digs_len_le.1 hb
  have := Wp_pos k
  omega
theorem qw_ratN (neg : Bool) (n d : Nat) (hd : d ≠ 0) {k : Nat} (h1 : (digs n).length ≤ k) (h2 : (digs d).length ≤ k) : qw (ratN neg n d) ≤ k := by
  unfold qw
  rw [ratN_t _ _ _ hd, ratN_d _ _ _ hd]
  have := digs_mono (Nat.div_le_self n (Nat.gcd n d))
  have := digs_mono (Nat.div_le_self d (Nat.gcd n d))
  omega
theorem qw_t (q : Rat) : (digs (qt q)).length ≤ qw q := Nat.le_max_left ..
theorem qw_d (q : Rat) : (digs (qd q)).length ≤ qw q := Nat.le_max_right ..
theorem qw_neg (q : Rat) : qw (-q) = qw q := by unfold qw; rw [q_neg_t, q_neg_d]
theorem qw_mul (p q : Rat) : qw (p * q) ≤ qw p + qw q := by
  rw [← q_mul]
  refine qw_ratN _ _ _ (Nat.mul_ne_zero (qd_pos p) (qd_pos q)) ?_ ?_
  · have := digs_mul (qt p) (qt q); have := qw_t p; have := qw_t q; omega
  · have := digs_mul (qd p) (qd q); have := qw_d p; have := qw_d q; omega
theorem q_xy (p q : Rat) : (digs (qt p * qd q)).length ≤ qw p + qw q := by
  have := digs_mul (qt p) (qd q); have := qw_t p; have := qw_d q; omega
theorem q_bb (p q : Rat) : (digs (qd p * qd q)).length ≤ qw p + qw q := by
  have := digs_mul (qd p) (qd q); have := qw_d p; have := qw_d q; omega
theorem qw_add (p q : Rat) : qw (p + q) ≤ qw p + qw q + 1 := by
  have hd := Nat.mul_ne_zero (qd_pos p) (qd_pos q)
  have h1 := q_xy p q
  have h2 := q_xy q p
  have h3 := q_bb p q
  by_cases h : qn p = qn q
  · rw [← q_sum_same h]
    exact qw_ratN _ _ _ hd (digs_add h1 (by omega)) (by omega)
  · rcases Nat.le_total (qt q * qd p) (qt p * qd q) with hl | hl
    · rw [← q_sum_left h hl]
      refine qw_ratN _ _ _ hd ?_ (by omega)
      have := digs_mono (Nat.sub_le (qt p * qd q) (qt q * qd p)); omega
    · rw [← q_sum_right h hl]
      refine qw_ratN _ _ _ hd ?_ (by omega)
      have := digs_mono (Nat.sub_le (qt q * qd p) (qt p * qd q)); omega
/-- order -/
def cmpQ (p q : Rat) : Int := if qn (p + -q) = true then -1 else if 0 < qt (p + -q) then 1 else 0
theorem q_sub (p q : Rat) : p + -q = p - q := (Rat.sub_eq_add_neg p q).symm
end Go.Proofs.YtbgggepdlkbpoaaGreatDoor
