/- Merged texts: NatX, NatY, NDiv, NRef, NRefO. -/
import Derived.Test.YtkjfpaommbjgbaaGC
import Derived.Test.YtkjfpaommbjgbaaGA
import Derived.Deep.DeepCutAuto
import Derived.Deep.CutBlock
import Derived.Deep.RegionWith
import Derived.OwnWalk
import Derived.Test.YtkjfpaommbjgbaaGB
namespace Go.Proofs.Ytkjfpaommbjgbaa
open Go.RowKit

theorem lz_any (x : Nat) (w : World) (h : x < 4294967296) (_h0 : x ≠ 0) : Calls Try.prog 82 #[.int .u32 (x : Int)] w fun e w' => e = .returned (.int .i64 ((32 - blen x : Nat) : Int)) ∧ w = w' := by
  have h1 := Try.bits_LeadingZeros32 (x : Int) w (by omega) (by omega)
  rw [Int.toNat_natCast, bitLen_eq x h] at h1
  have h2 := blen32 h
  exact h1.mono fun _ _ ⟨a, b⟩ => ⟨by rw [a]; exact ret_int (by omega), b.symm⟩
/-- the divisor, moved up till its highest bit is set -/
theorem norm_up {b : List Nat} {n : Nat} (hb : B32 b) (hl : b.length = n + 1) (h0 : wd b n ≠ 0) :
    (digs (val b * 2 ^ (32 - blen (wd b n)))).length = n + 1 ∧ 2147483648 ≤ wd (digs (val b * 2 ^ (32 - blen (wd b n)))) n := by
  have hlt := wd_lt hb n
  have h32 := blen32 hlt
  have h1 := val_take_succ (l := b) (k := n) (by omega)
  rw [← hl, List.take_length] at h1
  have h2 := val_take_lt hb n
  have h3 := blen_lt (wd b n)
  have h4 := blen_ge h0
  have hbp := blen_pos h0
  generalize hs : 32 - blen (wd b n) = s at *
  have e1 : wd b n * 2 ^ s < 4294967296 := by
    have : wd b n * 2 ^ s < 2 ^ blen (wd b n) * 2 ^ s := Nat.mul_lt_mul_of_pos_right h3 (Nat.pow_pos (by omega))
    rw [← Nat.pow_add, show blen (wd b n) + s = 32 by omega] at this
    exact this
  have e2 : 2147483648 ≤ wd b n * 2 ^ s := by
    have : 2 ^ (blen (wd b n) - 1) * 2 ^ s ≤ wd b n * 2 ^ s := Nat.mul_le_mul_right _ h4
    rw [← Nat.pow_add, show blen (wd b n) - 1 + s = 31 by omega] at this
    exact this
  have e3 : val b * 2 ^ s < Wp (n + 1) := by
    rw [h1, Nat.add_mul, Wp_succ]
    have f1 : (wd b n + 1) * 2 ^ s ≤ 4294967296 := by
      have : (wd b n + 1) * 2 ^ s ≤ 2 ^ blen (wd b n) * 2 ^ s := Nat.mul_le_mul_right _ h3
      rw [← Nat.pow_add, show blen (wd b n) + s = 32 by omega] at this
      exact this
    have f2 := Nat.mul_le_mul_right (Wp n) f1
    rw [Nat.add_mul, Nat.one_mul, Nat.add_mul] at f2
    have f3 : val (b.take n) * 2 ^ s < Wp n * 2 ^ s := Nat.mul_lt_mul_of_pos_right h2 (Nat.pow_pos (by omega))
    have f4 : wd b n * Wp n * 2 ^ s = wd b n * 2 ^ s * Wp n := by rw [Nat.mul_assoc, Nat.mul_comm (Wp n), ← Nat.mul_assoc]
    rw [Nat.mul_comm (Wp n)] at f3
    omega
  have e4 : 2147483648 * Wp n ≤ val b * 2 ^ s := by
    have f1 := Nat.mul_le_mul_right (Wp n) e2
    have f4 : wd b n * Wp n * 2 ^ s = wd b n * 2 ^ s * Wp n := by rw [Nat.mul_assoc, Nat.mul_comm (Wp n), ← Nat.mul_assoc]
    rw [h1, Nat.add_mul]; omega
  have hp := Wp_pos n
  have e5 : (digs (val b * 2 ^ s)).length = n + 1 := by
    have a1 := digs_len_le.2 e3
    have a2 : n < (digs (val b * 2 ^ s)).length := digs_len_lt.2 (by omega)
    omega
  refine ⟨e5, ?_⟩
  rw [wd_val (B32_digs _), val_digs, Nat.mod_eq_of_lt]
  · rw [Nat.le_div_iff_mul_le hp]; exact e4
  · rw [Nat.div_lt_iff_lt_mul hp, ← Wp_succ]; exact e3
/-- the words of a number, and noughts behind them -/
theorem pad_val {N L : Nat} (h1 : (digs N).length ≤ L) (h2 : L ≤ (digs N).length + 2) : ((digs N ++ [0, 0]).take L).length = L ∧ val ((digs N ++ [0, 0]).take L) = N := by
  have hl : (digs N ++ [0, 0]).length = (digs N).length + 2 := by simp
  refine ⟨by rw [List.length_take]; omega, ?_⟩
  rw [List.take_append, val_append, List.take_of_length_le h1, val_digs]
  have : val (([0, 0] : List Nat).take (L - (digs N).length)) = 0 := by
    have : ∀ k, val (([0, 0] : List Nat).take k) = 0 := by
      intro k
      match k with
      | 0 => rfl
      | 1 => rfl
      | k + 2 => simp [val]
    exact this _
  rw [this]; omega
theorem up_len {N s k : Nat} (h : (digs N).length = k + 1) (hs : s < 32) : k + 1 ≤ (digs (N * 2 ^ s)).length ∧ (digs (N * 2 ^ s)).length ≤ k + 2 := by
  have h1 : Wp k ≤ N := digs_len_lt.1 (by omega)
  have h2 : N < Wp (k + 1) := digs_len_le.1 (by omega)
  have h3 : N * 1 ≤ N * 2 ^ s := Nat.mul_le_mul_left _ (Nat.pow_pos (by omega))
  have h4 : N * 2 ^ s < Wp (k + 1) * 4294967296 := by
    have a := Nat.mul_lt_mul_of_pos_right (k := 2 ^ s) h2 (Nat.pow_pos (by omega))
    have b := Nat.mul_le_mul_left (Wp (k + 1)) (Nat.le_trans (pow_le32 hs) (show 2147483648 ≤ 4294967296 by omega))
    omega
  constructor
  · exact digs_len_lt.2 (by omega)
  · exact digs_len_le.2 (by rw [Wp_succ (k + 1), Nat.mul_comm 4294967296]; exact h4)

/-- an answer: a quotient and what is left -/
def RetQ (w : World) (Q R : Nat) (e : Ending) (w' : World) : Prop :=
  ∃ A1 c1 A2 c2, e = .returned (.tuple #[.slice A1 (digs Q).length c1, .slice A2 (digs R).length c2]) ∧ OW w' w.heap.size A1 c1 (digs Q) ∧ OW w' w.heap.size A2 c2 (digs R) ∧ Below w.heap.size w w'

def rsum (r v : Nat) : Nat := r + v
def tpred (t : Nat) : Nat := t - 1
theorem u64_id {x : Int} {y : Int} (h : x = y) (h1 : 0 ≤ y ∧ y ≤ 18446744073709551615) : IntKind.u64.wrap x = y := by rw [h]; exact IntWalk.u64_in _ (by omega)

theorem ms_c {x t d : Nat} (hx : x < 4294967296) (ht : t ≤ 4294967295) (hd : d < 4294967296) : IntKind.u64.wrap ((x : Int) + IntKind.u64.wrap ((t : Int) * (d : Int))) = (msC x t d : Int) := by
  have h := msC_lt hx ht hd
  have h2 := tv_le ht hd
  have e2 : IntKind.u64.wrap ((t : Int) * (d : Int)) = (tv t d : Int) := u64_id (by unfold tv; simp) (by omega)
  rw [e2]
  exact u64_id (by unfold tv msC; omega) (by omega)
theorem low_and {c : Nat} (h : c ≤ 18446744073709551615) : bits .and .u64 (c : Int) 4294967295 = ((c % 4294967296 : Nat) : Int) := by
  have := u64_and_nat c 4294967295 (by omega) (by omega)
  rw [show ((4294967295 : Nat) : Int) = 4294967295 from rfl] at this
  rw [this, show (4294967295 : Nat) = 2 ^ 32 - 1 from rfl, Nat.and_two_pow_sub_one_eq_mod]
def msX (u x t d q : Nat) : Int := IntKind.u64.wrap (IntKind.u64.wrap ((u : Int) - bits .and .u64 (IntKind.u64.wrap ((x : Int) + IntKind.u64.wrap ((t : Int) * (d : Int)))) 4294967295) - (q : Int))
theorem ms_x {u x t d q : Nat} (hu : u < 4294967296) (hx : x < 4294967296) (ht : t ≤ 4294967295) (hd : d < 4294967296) (hq : q ≤ 1) :
    msX u x t d q / 9223372036854775808 = (msB u (msC x t d) q : Int) ∧ msX u x t d q % 4294967296 = (msF u (msC x t d) q : Int) := by
  unfold msX
  have h := msC_lt hx ht hd
  rw [ms_c hx ht hd, low_and (by omega), IntKind.wrap_u64, IntKind.wrap_u64]
  generalize msC x t d = C at *
  have hm := Nat.mod_lt C (show 4294967296 > 0 by omega)
  unfold msB msF
  generalize C % 4294967296 = r at *
  split
  · constructor <;> omega
  · constructor <;> omega
theorem val_lt_of_zero {l : List Nat} {k : Nat} (hb : B32 l) (hz : ∀ t, k ≤ t → wd l t = 0) : val l < Wp k := by
  by_cases hk : l.length ≤ k
  · exact Nat.lt_of_lt_of_le (val_lt hb) (Wp_mono hk)
  · have h1 := val_take_drop l k (by omega)
    have h2 : val (l.drop k) = 0 := by
      have : l.drop k = List.replicate (l.length - k) 0 := by
        refine wd_ext (by simp) fun t ht => ?_
        rw [wd_replicate, wd_drop, hz _ (by omega)]
      rw [this, val_replicate]
    have := val_take_lt hb k
    rw [h2] at h1; omega
theorem dg_yes {U U2 D X P W t L : Nat} (hU : U = L + P * X) (h2 : U2 < W) (h : U2 + t * D * P = U + W) (hD : (t - 1) * D ≤ X) :
    1 ≤ t ∧ X < (t - 1 + 1) * D ∧ U2 + D * P = (U - (t - 1) * D * P) + W ∧ (U - (t - 1) * D * P) + (t - 1) * D * P = U := by
  have ht : 1 ≤ t := by
    rcases Nat.eq_zero_or_pos t with rfl | h0
    · rw [Nat.zero_mul, Nat.zero_mul] at h; omega
    · exact h0
  obtain ⟨r, rfl⟩ : ∃ r, t = r + 1 := ⟨t - 1, by omega⟩
  rw [Nat.add_sub_cancel] at hD ⊢
  have e1 : r * D * P ≤ X * P := Nat.mul_le_mul_right _ hD
  rw [Nat.mul_comm X P] at e1
  have e2 : (r + 1) * D * P = r * D * P + D * P := by rw [Nat.add_mul, Nat.add_mul, Nat.one_mul]
  refine ⟨ht, ?_, by omega, by omega⟩
  rcases Nat.lt_or_ge X ((r + 1) * D) with h3 | h3
  · exact h3
  · have e3 : (r + 1) * D * P ≤ X * P := Nat.mul_le_mul_right _ h3
    rw [Nat.mul_comm X P] at e3
    omega
theorem ov_top {N M s n m : Nat} {l : List Nat} (hl : val l = N * 2 ^ s) (hN : N < Wp n) (hM : Wp (m - 1) ≤ M) (hm : 1 ≤ m) (hmn : m ≤ n) (hk : n + 1 - m ≤ l.length) : val (l.drop (n + 1 - m)) < M * 2 ^ s := by
  have h1 := val_take_drop l _ hk
  have hp2 : 0 < 2 ^ s := Nat.pow_pos (by omega)
  have h2 : N * 2 ^ s < Wp n * 2 ^ s := Nat.mul_lt_mul_of_pos_right hN hp2
  have h3 : Wp n = Wp (n + 1 - m) * Wp (m - 1) := by rw [← Wp_add]; congr 1; omega
  have h4 : Wp (n + 1 - m) * val (l.drop (n + 1 - m)) < Wp (n + 1 - m) * (Wp (m - 1) * 2 ^ s) := by
    rw [← Nat.mul_assoc, ← h3]; omega
  exact Nat.lt_of_lt_of_le (Nat.lt_of_mul_lt_mul_left h4) (Nat.mul_le_mul_right _ hM)
set_option maxRecDepth 100000 in
set_option maxHeartbeats 8000000 in
theorem over_main (A D : Option Addr) (c d m : Nat) (a b : List Nat) (w : World) (ha : RW w w.heap.size A c a) (hb : RW w w.heap.size D d b) (na : Nrm a) (nb : Nrm b) (hm : b.length = m) (hm2 : 2 ≤ m) (hle : val b ≤ val a) (hla : a.length ≤ 8796093022208) :
    Calls Try.prog 64 #[.slice A a.length c, .slice D b.length d] w (RetQ w (val a / val b) (val a % val b)) := by
  have ba := ha.b32
  have bb := hb.b32
  have hll := len_of_le ba nb hle
  have hor := order_any A D c d _ _ a b w rfl rfl ha hb na nb
  have hcmp : ¬ cmpN (val a) (val b) < 0 := by unfold cmpN; split <;> (try split) <;> omega
  have hv0 : wd b (m - 1) ≠ 0 := by
    rcases nb with rfl | h
    · simp at hm; omega
    · rw [hm] at h; exact h
  have hlz := lz_any (wd b (m - 1))
  have hbl := blen_pos hv0
  have hb32 := blen32 (wd_lt bb (m - 1))
  obtain ⟨hdl, hd31⟩ := norm_up bb (show b.length = (m - 1) + 1 by omega) hv0
  rw [Nat.sub_add_cancel (by omega)] at hdl
  have hs32 : 32 - blen (wd b (m - 1)) < 32 := by omega
  have hda : a = digs (val a) := (digs_val ba na).symm
  obtain ⟨ka, hka⟩ : ∃ ka, a.length = ka + 1 := ⟨a.length - 1, by omega⟩
  have hul := up_len (N := val a) (k := ka) (by rw [← hda]; exact hka) hs32
  generalize cmpN (val a) (val b) = cmp at *
  generalize hs : 32 - blen (wd b (m - 1)) = s at *
  have hlen1 : ((b.length : Int) == 1) = false := beq_eq_false_iff_ne.2 (by omega)
  obtain ⟨b1, o1, hD, hlt1, hx⟩ := hb.at_ (by omega)
  have hxk := hx (m - 1) (by omega)
  have hlzz := fun w => hlz w (wd_lt bb (m - 1)) hv0
  have hpad := pad_val (N := val a * 2 ^ s) (L := a.length + 1) (by omega) (by omega)
  subst hD
  have hml : m ≤ a.length := by omega
  have hka1 : a.length ≤ ka + 1 := by omega
  have hka2 : ka + 1 ≤ a.length := by omega
  have hbn : (b.length : Int) - 1 = ((m - 1 : Nat) : Int) := by omega
  have hnb : m - 1 < b.length := by omega
  have HM := Lib.hid hm
  have HDA := Lib.hid hda
  have HDL := Lib.hid hdl
  clear hm hda hka hx hs hdl
  go_enter Try.func64, Try.ntmps64
  go_wp2_with fail
  refine hor.mono ?_; rintro e w1 ⟨rfl, q0, rfl⟩
  go_wp2_with fail
  refine (hlzz _).mono ?_; rintro e w1 ⟨rfl, rfl⟩
  go_wp2_with fail
  refine (up_any (some ⟨b1, o1, none⟩) d _ b _ s (by omega) rfl (hb.drewN q0) (by omega)).mono ?_; rintro e w3 ⟨A3, c3, rfl, O3, B3⟩
  rw [HDL.out]
  have B03 : Below w.heap.size w w3 := (bdN (Below.refl _ _) q0).trans B3
  go_wp2_with fail
  refine (up_any A c _ a w3 s (by omega) rfl (ha.step B03 B03.size) (by omega)).mono ?_; rintro e w4 ⟨A4, c4, rfl, O4, B4⟩
  have B04 := B03.trans (B4.mono B03.size)
  have hb5 : Below w3.heap.size w3 (w4.alloc (.cells #[.int .u32 (0 : Nat), .int .u32 (0 : Nat)] 52)) := B4.alloc B4.size _
  have h00 := RW.two w4 52 (show 0 < 4294967296 by omega) (show 0 < 4294967296 by omega)
  have hml2 : (a.length : Int) + 1 - (m : Int) = ((a.length + 1 - m : Nat) : Int) := by omega
  have HML := Lib.hid hml2
  clear hml2
  go_wp2_with (first
    | (at_builtin; refine wp_appW _ rfl _ _ rfl w3.heap.size _ _ _ (digs (val a * 2 ^ s)) rfl rfl (O4.alloc _) _ _ _ [0, 0] rfl rfl _ h00 (by simp; omega) hb5.size ?_; intro A5 c5 w5 g1 g2 g3; have g4 := g1.lc; rw [List.length_append] at g4 ⊢; simp only [List.length_cons, List.length_nil] at g4)
    | (at_make; refine wp_makeW _ rfl _ _ rfl .i64 .i64 _ _ (a.length + 1 - m) rfl rfl HML.out HML.out (by omega) ?_; intro w6 O6 B6 hs6))
  -- the rows: u, q, and the divisor
  have hul0 := hpad.1
  have O5 := (g1.take (a.length + 1)).below B6 (Nat.le_refl _)
  obtain ⟨gu, rfl⟩ : ∃ g, A5 = some ⟨g, 0, none⟩ := by
    rcases O5.form with ⟨_, _, he⟩ | ⟨g, rfl, _⟩
    · rw [he] at hul0; simp at hul0
    · exact ⟨g, rfl⟩
  have hgu : gu < w5.heap.size := (g1.take (a.length + 1)).lt.2
  have B36 : Below w3.heap.size w3 w6 := (hb5.trans g3).trans (B6.mono (hb5.trans g3).size)
  have Rd := O3.rw
  obtain ⟨p, hp⟩ : ∃ p, m = p + 2 := ⟨m - 2, by omega⟩
  rw [hp, show p + 2 - 1 = p + 1 by omega] at hd31
  have hdl2 : (digs (val b * 2 ^ s)).length = p + 2 := by rw [HDL.out]; exact hp
  have HDL2 := Lib.hid hdl2
  have hbd := B32_digs (val b * 2 ^ s)
  have hvd := val_digs (val b * 2 ^ s)
  have hOv0 : Hid (Ov (val a * 2 ^ s) ((digs (val a * 2 ^ s) ++ [0, 0]).take (a.length + 1)) (digs (val b * 2 ^ s)) (List.replicate (a.length + 1 - m) 0) (a.length + 1 - m)) := by
    refine ⟨by rw [hpad.2, val_replicate]; simp, ?_, fun t _ => wd_replicate _ _⟩
    rw [val_digs]
    refine ov_top (N := val a) (by rw [hpad.2]) (val_lt ba) (digs_len_lt.1 ?_) (by omega) (by omega) (by rw [hpad.1]; omega)
    rw [digs_val bb nb, HM.out]; omega
  generalize hdg : digs (val b * 2 ^ s) = dl at *
  have HDG := Lib.hid hdg
  have HVD := Lib.hid hvd
  have HUL0 := Lib.hid hul0
  have HP := Lib.hid hp
  have hmp : m ≤ p + 2 ∧ p + 2 ≤ m := by omega
  obtain ⟨hmp1, hmp2⟩ := hmp
  obtain ⟨gd, od, rfl, hgd, hxd⟩ := Rd.at_ (by rw [HDL.out]; omega)
  clear hdg hvd hul0 hdl2 hp g1 g2 g4 hpad O3 hb5 h00 O4 ha hb
  go_loopg [12] (a.length + 1 - m) (fun g iv wr => ∃ (jj : Int) (k : Nat) (ul ql : List Nat), k = g ∧ iv = .int .i64 jj ∧ Hid (jj = (k : Int) - 1) ∧ k ≤ a.length + 1 - m ∧ OW wr w3.heap.size (some ⟨gu, 0, none⟩) c5 ul ∧ Hid (ul.length = a.length + 1) ∧
      OW wr w5.heap.size (some ⟨w5.heap.size, 0, none⟩) (a.length + 1 - m) ql ∧ Hid (ql.length = a.length + 1 - m) ∧ Hid (Ov (val a * 2 ^ s) ul dl ql k) ∧ Below w3.heap.size w3 wr)
  case atStart => exact ⟨_, a.length + 1 - m, _, _, rfl, rfl, (by show _ = _; omega), Nat.le_refl _, O5, HUL0, O6, (by show _ = _; simp), hOv0, B36⟩
  case round =>
    obtain ⟨jj, k, ul, ql, rfl, rfl, hjj, hk, Ou, hlu, Oq, hlq, hOv, Bw⟩ := hrel
    by_cases h0 : 0 < k
    · obtain ⟨j, rfl⟩ : ∃ j, k = j + 1 := ⟨k - 1, by omega⟩
      obtain rfl : jj = (j : Int) := by have := hjj.out; omega
      have hjm : j + m < a.length + 1 := by omega
      have c0 := Ou.cell (k := j + m) (by rw [hlu.out]; omega)
      have c1 := Ou.cell (k := j + m - 1) (by rw [hlu.out]; omega)
      have c2 := Ou.cell (k := j + m - 2) (by rw [hlu.out]; omega)
      have d1 := (Bw.cell (p := ⟨gd, od + (m - 1), none⟩) hgd).trans (hxd (m - 1) (by rw [HDL.out]; omega))
      have d2 := (Bw.cell (p := ⟨gd, od + (m - 2), none⟩) hgd).trans (hxd (m - 2) (by rw [HDL.out]; omega))
      have i1 : IntKind.i64.wrap ((j : Int) + (m : Int)) = (j : Int) + (m : Int) := IntWalk.i64_in _ (by omega)
      have i2 : IntKind.i64.wrap ((j : Int) + (m : Int) - 1) = (j : Int) + (m : Int) - 1 := IntWalk.i64_in _ (by omega)
      have i3 : ((j : Int) + (m : Int)).toNat = j + m := by omega
      have i4 : ((j : Int) + (m : Int) - 1).toNat = j + m - 1 := by omega
      have x0l := wd_lt Ou.b32 (j + m)
      have x1l := wd_lt Ou.b32 (j + m - 1)
      have e1 := scat_or x0l x1l
      have hE := est_of Ou.b32 hbd HDL2.out hd31 (Ov_lt Ou.b32 (by rw [hlu.out]; omega) hOv.out) hOv.out.2.1
      rw [show j + (p + 2) = j + m by omega, show j + (p + 1) = j + m - 1 by omega, show j + p = j + m - 2 by omega, show p + 1 = m - 1 by omega, show p = m - 2 by omega] at hE
      have HE := Lib.hid hE
      have hv1 := hE.v1
      have hv1l := wd_lt hbd (m - 1)
      have hv2l := wd_lt hbd (m - 2)
      have x2l := wd_lt Ou.b32 (j + m - 2)
      clear hE
      have hst := Lib.hid (Es_start HE.out)
      have e2 : (scat (wd ul (j + m)) (wd ul (j + m - 1)) : Int) / (wd dl (m - 1) : Int) = (tq (scat (wd ul (j + m)) (wd ul (j + m - 1))) (wd dl (m - 1)) : Int) := by unfold tq; simp
      have e3 : (scat (wd ul (j + m)) (wd ul (j + m - 1)) : Int) % (wd dl (m - 1) : Int) = (tr (scat (wd ul (j + m)) (wd ul (j + m - 1))) (wd dl (m - 1)) : Int) := by unfold tr; simp
      have i5 : IntKind.i64.wrap ((m : Int) - 1) = (m : Int) - 1 := IntWalk.i64_in _ (by omega)
      have i6 : ((m : Int) - 1).toNat = m - 1 := by omega
      have hnz : ((wd dl (m - 1) : Int) == 0) = false := beq_eq_false_iff_ne.2 (by omega)
      have hsl := scat_lt x0l x1l
      have hrl : (tr (scat (wd ul (j + m)) (wd ul (j + m - 1))) (wd dl (m - 1))) ≤ 4294967295 := by have := hst.out.2.2; unfold tr scat; omega
      have wt : IntKind.u64.wrap (tq (scat (wd ul (j + m)) (wd ul (j + m - 1))) (wd dl (m - 1))) = (tq (scat (wd ul (j + m)) (wd ul (j + m - 1))) (wd dl (m - 1))) := u64_id (by omega) (by have : (tq (scat (wd ul (j + m)) (wd ul (j + m - 1))) (wd dl (m - 1))) ≤ scat (wd ul (j + m)) (wd ul (j + m - 1)) := Nat.div_le_self _ _; omega)
      have wtr : IntKind.u64.wrap (tr (scat (wd ul (j + m)) (wd ul (j + m - 1))) (wd dl (m - 1))) = (tr (scat (wd ul (j + m)) (wd ul (j + m - 1))) (wd dl (m - 1))) := u64_id (by omega) (by omega)
      go_wp2
      go_quiet (fail)
      go_wp2
      go_quiet (fail)
      go_upto_block 2 with fail
      go_cut [14] (fun s14 wx => ∃ t : Nat, s14 = .int .u64 (t : Int) ∧ Hid (Dg (val (ul.drop j)) (val dl) t) ∧ OW wx w3.heap.size (some ⟨gu, 0, none⟩) c5 ul ∧
        OW wx w5.heap.size (some ⟨w5.heap.size, 0, none⟩) (a.length + 1 - m) ql ∧ Below w3.heap.size w3 wx)
      case first =>
        --BEGIN
        go_wp2_with fail
        go_loopg [14, 15] (tq (scat (wd ul (j + m)) (wd ul (j + m - 1))) (wd dl (m - 1))) (fun g s14 s15 wx => ∃ t r : Nat, t = g ∧ s14 = .int .u64 (t : Int) ∧ s15 = .int .u64 (r : Int) ∧ r ≤ 4294967295 ∧
          Hid (Es (val (ul.drop j)) (val dl) (scat (wd ul (j + m)) (wd ul (j + m - 1))) (wd dl (m - 1)) t r) ∧ OW wx w3.heap.size (some ⟨gu, 0, none⟩) c5 ul ∧
          OW wx w5.heap.size (some ⟨w5.heap.size, 0, none⟩) (a.length + 1 - m) ql ∧ Below w3.heap.size w3 wx)
        case atStart => exact ⟨(tq (scat (wd ul (j + m)) (wd ul (j + m - 1))) (wd dl (m - 1))), (tr (scat (wd ul (j + m)) (wd ul (j + m - 1))) (wd dl (m - 1))), rfl, rfl, (congrArg _ e3), hrl, hst.out.1, (Ou.drewN _).drewN _, (Oq.drewN _).drewN _, bdN (bdN Bw _) _⟩
        case round =>
          obtain ⟨t, r, rfl, rfl, rfl, hr, hes, Ou', Oq', Bw'⟩ := hrel
          have htl := Es_t hes.out HE.out.v1 HE.out.top
          have c2' := Ou'.cell (k := j + m - 2) (by rw [hlu.out]; omega)
          have d1' := (Bw'.cell (p := ⟨gd, od + (m - 1), none⟩) hgd).trans (hxd (m - 1) (by rw [HDL.out]; omega))
          have d2' := (Bw'.cell (p := ⟨gd, od + (m - 2), none⟩) hgd).trans (hxd (m - 2) (by rw [HDL.out]; omega))
          clear c0 c1 c2 d1 d2 Ou Oq Bw e1 e2 e3 hst hsl wt wtr hrl hnz
          have l1 : IntKind.i64.wrap ((m : Int) - 2) = (m : Int) - 2 := IntWalk.i64_in _ (by omega)
          have l2 : ((m : Int) - 2).toNat = m - 2 := by omega
          have l3 : IntKind.i64.wrap ((j : Int) + (m : Int) - 2) = (j : Int) + (m : Int) - 2 := IntWalk.i64_in _ (by omega)
          have l4 : ((j : Int) + (m : Int) - 2).toNat = j + m - 2 := by omega
          have l5 : IntKind.u64.wrap ((r : Int) + (wd dl (m - 1) : Int)) = (rsum r (wd dl (m - 1)) : Int) := u64_id (by unfold rsum; omega) (by unfold rsum; omega)
          by_cases hc1 : 4294967295 < t
          · obtain ⟨ht1, hes'⟩ := Es_dec HE.out hes.out (Or.inl hc1)
            have hci : (4294967295 : Int) < (t : Int) := by omega
            have l6 : IntKind.u64.wrap ((t : Int) - 1) = (tpred t : Int) := u64_id (by unfold tpred; omega) (by unfold tpred; omega)
            by_cases hb : 4294967295 < rsum r (wd dl (m - 1))
            · have hbi : (4294967295 : Int) < (rsum r (wd dl (m - 1)) : Int) := by omega
              go_wp2
              go_quiet (fail)
              go_wp2
              go_meet
              exact ⟨_, rfl, Es_brk HE.out hes' hb, Ou'.drewN _, Oq'.drewN _, bdN Bw' _⟩
            · have hbi : ¬ (4294967295 : Int) < (rsum r (wd dl (m - 1)) : Int) := by omega
              have hbl : rsum r (wd dl (m - 1)) ≤ 4294967295 := by omega
              go_wp2
              go_quiet (fail)
              go_wp2
              go_roundg (t - 1)
              case measure => omega
              case rel => exact ⟨_, _, rfl, rfl, rfl, hbl, hes', Ou'.drewN _, Oq'.drewN _, bdN Bw' _⟩
          · have hci : ¬ (4294967295 : Int) < (t : Int) := by omega
            have cb : decide ((4294967295 : Int) < (t : Int)) = false := decide_eq_false hci
            have htv := tv_le (t := t) (v2 := wd dl (m - 2)) (by omega) hv2l
            have l7 : IntKind.u64.wrap ((t : Int) * (wd dl (m - 2) : Int)) = (tv t (wd dl (m - 2)) : Int) := u64_id (by unfold tv; simp) (by omega)
            have l8 := scat_or (r := r) (x := wd ul (j + m - 2)) (by omega) x2l
            by_cases hc2 : scat r (wd ul (j + m - 2)) < tv t (wd dl (m - 2))
            · obtain ⟨ht1, hes'⟩ := Es_dec HE.out hes.out (Or.inr hc2)
              have hci2 : (scat r (wd ul (j + m - 2)) : Int) < (tv t (wd dl (m - 2)) : Int) := by omega
              have l6 : IntKind.u64.wrap ((t : Int) - 1) = (tpred t : Int) := u64_id (by unfold tpred; omega) (by unfold tpred; omega)
              by_cases hb : 4294967295 < rsum r (wd dl (m - 1))
              · have hbi : (4294967295 : Int) < (rsum r (wd dl (m - 1)) : Int) := by omega
                go_wp2
                go_quiet (fail)
                go_wp2
                go_meet
                exact ⟨_, rfl, Es_brk HE.out hes' hb, Ou'.drewN _, Oq'.drewN _, bdN Bw' _⟩
              · have hbi : ¬ (4294967295 : Int) < (rsum r (wd dl (m - 1)) : Int) := by omega
                have hbl : rsum r (wd dl (m - 1)) ≤ 4294967295 := by omega
                go_wp2
                go_quiet (fail)
                go_wp2
                go_roundg (t - 1)
                case measure => omega
                case rel => exact ⟨_, _, rfl, rfl, rfl, hbl, hes', Ou'.drewN _, Oq'.drewN _, bdN Bw' _⟩
            · have hci2 : ¬ (scat r (wd ul (j + m - 2)) : Int) < (tv t (wd dl (m - 2)) : Int) := by omega
              go_wp2
              go_quiet (fail)
              go_wp2
              go_meet
              exact ⟨_, rfl, Es_end HE.out hes.out (by omega) (by unfold scat tv at hc2; omega), Ou'.drewN _, Oq'.drewN _, bdN Bw' _⟩
        --END
      case rest =>
        obtain ⟨t, rfl, hDg, Ou', Oq', Bw'⟩ := hcut
        clear c0 c1 c2 d1 d2 Ou Oq Bw e1 e2 e3 hst hsl x0l x1l x2l wt wtr hrl hnz
        go_upto_block 4 with fail
        go_wp2_with fail
        have hTop := Lib.hid (show w3.heap.size ≤ gu from by
          rcases Ou'.form with ⟨_, _, he⟩ | ⟨g, hg, hge⟩
          · rw [he] at hlu; exact absurd hlu.out (by simp)
          · cases hg; exact hge.1)
        go_loopg [16, 17, 150] m (fun g bv cv iv wx => ∃ (i c q : Nat) (u' : List Nat), i ≤ m ∧ m - i = g ∧ bv = .int .u64 (q : Int) ∧ cv = .int .u64 (c : Int) ∧ iv = .int .i64 (i : Int) ∧ q ≤ 1 ∧ c < 4294967296 ∧
          OW wx w3.heap.size (some ⟨gu, 0, none⟩) c5 u' ∧ Hid (Ms ul dl u' j t i c q) ∧ OW wx w5.heap.size (some ⟨w5.heap.size, 0, none⟩) (a.length + 1 - m) ql ∧ Below w3.heap.size w3 wx)
        case atStart => exact ⟨0, 0, 0, ul, Nat.zero_le _, rfl, rfl, rfl, rfl, by omega, by omega, Ou', Ms_start _ _ _ _, Oq', Bw'⟩
        case round =>
          obtain ⟨i, x, q, u', hi, rfl, rfl, rfl, rfl, hq, hx, Ou2, hMs, Oq2, Bw2⟩ := hrel
          by_cases hin : i < m
          · skip
            --BEGIN
            have hii : (i : Int) < (m : Int) := by omega
            have u1 := Ou2.cell (k := i + j) (by rw [hMs.out.1, hlu.out]; omega)
            have u1f := Ou2.frozen (i + j)
            have dc := (Bw2.cell (p := ⟨gd, od + i, none⟩) hgd).trans (hxd i (by rw [HDL.out]; omega))
            have hwi := wd_lt hbd i
            have hCl := msC_lt (c := x) (t := t) (x := wd dl i) hx hDg.out.1 hwi
            have l3 : IntKind.i64.wrap ((i : Int) + (j : Int)) = ((i + j : Nat) : Int) := by rw [IntWalk.i64_in _ (by omega)]; omega
            have hux := wd_lt Ou2.b32 (i + j)
            have hset := Ou2.set (i + j) (msF_lt (wd u' (i + j)) (msC x t (wd dl i)) q)
            have hfar := Oq2.far (p := ⟨gu, i + j, none⟩) (fun g hg => by cases hg; show w5.heap.size ≠ gu; omega) (.int .u32 (msF (wd u' (i + j)) (msC x t (wd dl i)) q : Nat))
            have hbel2 := Bw2.setCell (p := ⟨gu, i + j, none⟩) hTop.out (.int .u32 (msF (wd u' (i + j)) (msC x t (wd dl i)) q : Nat))
            have hst := Lib.hid (Ms_step (by rw [hlu.out]; omega) Ou2.b32 hq hMs.out)
            go_wp2
            go_roundg (m - (i + 1))
            case measure => omega
            case rel =>
              have f1 := (ms_x hux hx hDg.out.1 hwi hq).2
              have f2 := (ms_x hux hx hDg.out.1 hwi hq).1
              have f3 := ms_c hx hDg.out.1 hwi
              unfold msX at f1 f2
              rw [f1]
              exact ⟨i + 1, msC x t (wd dl i) / 4294967296, _, _, by omega, rfl, congrArg _ f2, by rw [f3]; rfl, by go_num, msB_le _ _ _, hCl.2, hset, hst, hfar, hbel2⟩
--END
          · obtain rfl : m = i := by omega
            have hii : ¬ (m : Int) < (m : Int) := by omega
            have hux := wd_lt Ou2.b32 (j + m)
            have u1 := Ou2.cell (k := j + m) (by rw [hMs.out.1, hlu.out]; omega)
            have u1f := Ou2.frozen (j + m)
            have q1 := Oq2.cell (k := j) (by rw [hlq.out]; omega)
            have q1f := Oq2.frozen j
            have hjl : j < ul.length := by rw [hlu.out]; omega
            have hjq : j < ql.length := by rw [hlq.out]; omega
            have ltc : (t : Int) % 4294967296 = (t : Int) := by have := hDg.out.1; omega
            by_cases hc : x + q ≤ wd u' (j + m)
            · skip
              --BEGIN
              obtain ⟨y, hy⟩ : ∃ y, y = wd u' (j + m) - x := ⟨_, rfl⟩
              obtain ⟨z, hz⟩ : ∃ z, z = wd u' (j + m) - (x + q) := ⟨_, rfl⟩
              have l1 : IntKind.u64.wrap ((wd u' (j + m) : Int) - (x : Int)) = (y : Int) := u64_id (by omega) (by omega)
              have l2 : IntKind.u64.wrap ((y : Int) - (q : Int)) = (z : Int) := u64_id (by omega) (by omega)
              have l4 : (z : Int) / 9223372036854775808 = 0 := by omega
              have l5 : (z : Int) % 4294967296 = (z : Int) := by omega
              have hno : Hid (val (u'.set (j + m) z) + t * val dl * Wp j = val ul) := by
                have := Ms_no (n := m) HDL.out (by rw [hlu.out]; omega) hMs.out (by rw [Nat.add_comm m j]; exact hc)
                rw [Nat.add_comm m j, ← hz] at this; exact this
              have hzl : z < 4294967296 := by omega
              have HZ := Lib.hid hz
              have HY := Lib.hid hy
              clear hz hy
              have hset := Ou2.set (j + m) hzl
              have hfar := Oq2.far (p := ⟨gu, j + m, none⟩) (fun g hg => by cases hg; show w5.heap.size ≠ gu; omega) (.int .u32 (z : Nat))
              have hbel2 := Bw2.setCell (p := ⟨gu, j + m, none⟩) hTop.out (.int .u32 (z : Nat))
              have hset2 := hfar.set j (show t < 4294967296 by have := hDg.out.1; omega)
              have hfar2 := hset.far (p := ⟨w5.heap.size, j, none⟩) (fun g hg => by cases hg; show gu ≠ w5.heap.size; omega) (.int .u32 (t : Nat))
              have hbel3 := hbel2.setCell (p := ⟨w5.heap.size, j, none⟩) (by show w3.heap.size ≤ w5.heap.size; have := hTop.out; omega) (.int .u32 (t : Nat))
              have q2 := hfar.cell (k := j) hjq
              have q2f := hfar.frozen j
              have hOv2 : Hid (Ov (val a * 2 ^ s) (u'.set (j + m) z) dl (ql.set j t) j) :=
                Ov_step hjl hjq (by rw [List.length_set]; exact hMs.out.1) (fun k hk => by rw [wd_set_ne (by omega)]; exact hMs.out.2.1 k hk) hOv.out hno.out hDg.out.2.1
              go_wp2
              go_roundg j
              case measure => omega
              case rel => exact ⟨_, j, _, _, rfl, rfl, (by show _ = _; first | rfl | omega), by omega, hfar2, (by show _ = _; rw [List.length_set, hMs.out.1]; exact hlu.out), hset2, (by show _ = _; rw [List.length_set]; exact hlq.out), hOv2, hbel3⟩
--END
            · obtain ⟨y, hy⟩ : ∃ y, y = (wd u' (j + m) + 18446744073709551616 - x) % 18446744073709551616 := ⟨_, rfl⟩
              obtain ⟨zz, hzz⟩ : ∃ zz, zz = wd u' (j + m) + 18446744073709551616 - (x + q) := ⟨_, rfl⟩
              obtain ⟨z, hz⟩ : ∃ z, z = wd u' (j + m) + 4294967296 - (x + q) := ⟨_, rfl⟩
              have l1 : IntKind.u64.wrap ((wd u' (j + m) : Int) - (x : Int)) = (y : Int) := by rw [IntKind.wrap_u64]; omega
              have l2 : IntKind.u64.wrap ((y : Int) - (q : Int)) = (zz : Int) := by rw [IntKind.wrap_u64]; omega
              have l4 : (zz : Int) / 9223372036854775808 = 1 := by omega
              have l5 : (zz : Int) % 4294967296 = (z : Int) := by omega
              have hzl : z < 4294967296 := by omega
              have hyes : val (u'.set (j + m) z) + t * val dl * Wp j = val ul + Wp (m + j + 1) := by
                have := Ms_yes (n := m) HDL.out (by rw [hlu.out]; omega) hMs.out (by rw [Nat.add_comm m j]; omega) (by omega)
                rw [Nat.add_comm m j, ← hz] at this; rw [Nat.add_comm m j]; exact this
              have hzero : ∀ k, m + j + 1 ≤ k → wd ul k = 0 := fun k hk => by
                have h1 := wd_zero_of (l := ul.drop (j + 1)) (k := m) (t := k - (j + 1)) (B32_drop Ou'.b32 _) (Nat.lt_trans hOv.out.2.1 (by have := val_lt hbd; rw [HDL.out] at this; exact this)) (by omega)
                rw [wd_drop, show j + 1 + (k - (j + 1)) = k by omega] at h1; exact h1
              have hset := Ou2.set (j + m) hzl
              have hzero2 : ∀ k, m + j + 1 ≤ k → wd (u'.set (j + m) z) k = 0 := fun k hk => by rw [wd_set_ne (by omega), hMs.out.2.2.1 k (by omega)]; exact hzero k hk
              have hdy := dg_yes (val_take_drop ul j (by omega)) (val_lt_of_zero hset.b32 hzero2) hyes hDg.out.2.2
              have ht1 := hdy.1
              have HDY := Lib.hid hdy
              have HZ2 := Lib.hid hzero2
              have HZ := Lib.hid hz
              have hlen2 : Hid ((u'.set (j + m) z).length = a.length + 1) := by show _ = _; rw [List.length_set, hMs.out.1]; exact hlu.out
              have hlow2 : Hid (∀ k, k < j → wd (u'.set (j + m) z) k = wd ul k) := fun k hk => by rw [wd_set_ne (by omega)]; exact hMs.out.2.1 k hk
              clear hz hy hzz hyes hzero hzero2 hdy
              have hfar := Oq2.far (p := ⟨gu, j + m, none⟩) (fun g hg => by cases hg; show w5.heap.size ≠ gu; omega) (.int .u32 (z : Nat))
              have hbel2 := Bw2.setCell (p := ⟨gu, j + m, none⟩) hTop.out (.int .u32 (z : Nat))
              have l6 : IntKind.u64.wrap ((t : Int) - 1) = (tpred t : Int) := u64_id (by unfold tpred; omega) (by unfold tpred; have := hDg.out.1; omega)
              generalize u'.set (j + m) z = u2 at *
              go_wp2
              clear u1 u1f q1 q1f
              go_loopg [21, 210] m (fun g cv iv wx => ∃ (i c : Nat) (v : List Nat), i ≤ m ∧ m - i = g ∧ cv = .int .u32 (c : Int) ∧ iv = .int .i64 (i : Int) ∧ c ≤ 1 ∧
                OW wx w3.heap.size (some ⟨gu, 0, none⟩) c5 v ∧ Hid (Ab u2 dl v j i c) ∧ OW wx w5.heap.size (some ⟨w5.heap.size, 0, none⟩) (a.length + 1 - m) ql ∧ Below w3.heap.size w3 wx)
              case atStart => exact ⟨0, 0, u2, Nat.zero_le _, rfl, rfl, rfl, by omega, hset, Ab_start _ _ _, hfar, hbel2⟩
              case round =>
                obtain ⟨i, cc, v, hi, rfl, rfl, rfl, hcc, Ov3, hAb, Oq3, Bw3⟩ := hrel
                by_cases hin : i < m
                · skip
                  --BEGIN
                  have hii : (i : Int) < (m : Int) := by omega
                  have hvl : v.length = a.length + 1 := by rw [hAb.out.1]; exact hlen2.out
                  have hij : i + j < v.length := by omega
                  have v1 := Ov3.cell hij
                  have v1f := Ov3.frozen (i + j)
                  have dc := (Bw3.cell (p := ⟨gd, od + i, none⟩) hgd).trans (hxd i (by rw [HDL.out]; omega))
                  have hwv := wd_lt Ov3.b32 (i + j)
                  have hwd := wd_lt hbd i
                  have m3 : IntKind.i64.wrap ((i : Int) + (j : Int)) = (i : Int) + (j : Int) := IntWalk.i64_in _ (by omega)
                  have m4 : ((i : Int) + (j : Int)).toNat = i + j := by omega
                  have m5 : (i : Int) + (j : Int) < (a.length : Int) + 1 := by omega
                  have m6 : 0 ≤ (i : Int) + (j : Int) := by omega
                  have hst2 := Lib.hid (Ab_step (d := dl) (by rw [← hAb.out.1]; exact hij) hAb.out)
                  have hset3 := Ov3.set (i + j) (addf_lt (wd v (i + j)) (wd dl i) cc)
                  have hcl := addc_le hwv hwd hcc
                  have hfar3 := Oq3.far (p := ⟨gu, i + j, none⟩) (fun g hg => by cases hg; show w5.heap.size ≠ gu; omega) (.int .u32 (addf (wd v (i + j)) (wd dl i) cc : Nat))
                  have hbel3 := Bw3.setCell (p := ⟨gu, i + j, none⟩) hTop.out (.int .u32 (addf (wd v (i + j)) (wd dl i) cc : Nat))
                  have hadd := add32_any (wd v (i + j)) (wd dl i) cc
                  have HVL := Lib.hid hvl
                  clear hvl
                  go_wp2
                  go_region_with (first | (go_at_call 84; refine (hadd _ hwv hwd hcc).mono ?_; rintro e w' ⟨rfl, rfl⟩))
                  all_goals
                    go_wp2
                    go_roundg (m - (i + 1))
                    case measure => omega
                    case rel => exact ⟨i + 1, _, _, by omega, rfl, rfl, by go_num, hcl, hset3.drewN _, hst2, hfar3.drewN _, bdN hbel3 _⟩
--END
                · obtain rfl : m = i := by omega
                  have hii : ¬ (m : Int) < (m : Int) := by omega
                  have hvl : v.length = a.length + 1 := by rw [hAb.out.1]; exact hlen2.out
                  have v1 := Ov3.cell (k := j + m) (by rw [hvl]; omega)
                  have v1f := Ov3.frozen (j + m)
                  have hwv := wd_lt Ov3.b32 (j + m)
                  obtain ⟨z2, hz2⟩ : ∃ z2, z2 = (wd v (j + m) + cc) % 4294967296 := ⟨_, rfl⟩
                  have hz2l : z2 < 4294967296 := by omega
                  have m7 : ((wd v (j + m) : Int) + (cc : Int)) % 4294967296 = (z2 : Int) := by omega
                  have hfin : val (v.set (j + m) z2) = val ul - (t - 1) * val dl * Wp j := by
                    have := Ab_end (n := m) Ov3.b32 HDL.out (by rw [hlen2.out]; omega) HZ2.out hAb.out hcc HDY.out.2.2.1
                    rw [Nat.add_comm m j, ← hz2] at this; exact this
                  have HZ3 := Lib.hid hz2
                  have hset4 := Ov3.set (j + m) hz2l
                  have hfar4 := Oq3.far (p := ⟨gu, j + m, none⟩) (fun g hg => by cases hg; show w5.heap.size ≠ gu; omega) (.int .u32 (z2 : Nat))
                  have hbel4 := Bw3.setCell (p := ⟨gu, j + m, none⟩) hTop.out (.int .u32 (z2 : Nat))
                  have htl : tpred t < 4294967296 := by unfold tpred; have := hDg.out.1; omega
                  have ltc2 : (tpred t : Int) % 4294967296 = (tpred t : Int) := by omega
                  have hset5 := hfar4.set j htl
                  have hfar5 := hset4.far (p := ⟨w5.heap.size, j, none⟩) (fun g hg => by cases hg; show gu ≠ w5.heap.size; omega) (.int .u32 (tpred t : Nat))
                  have hbel5 := hbel4.setCell (p := ⟨w5.heap.size, j, none⟩) (by show w3.heap.size ≤ w5.heap.size; have := hTop.out; omega) (.int .u32 (tpred t : Nat))
                  have q2 := hfar4.cell (k := j) hjq
                  have q2f := hfar4.frozen j
                  have hOv2 : Hid (Ov (val a * 2 ^ s) (v.set (j + m) z2) dl (ql.set j (tpred t)) j) :=
                    Ov_step hjl hjq (by rw [List.length_set, hvl, hlu.out]) (fun k hk => by rw [wd_set_ne (by omega), hAb.out.2.1 k hk]; exact hlow2.out k hk) hOv.out (by rw [hfin]; exact HDY.out.2.2.2) HDY.out.2.1
                  have HVL := Lib.hid hvl
                  clear hvl hfin hz2
                  go_wp2
                  go_roundg j
                  case measure => omega
                  case rel => exact ⟨_, j, _, _, rfl, rfl, (by show _ = _; first | rfl | omega), by omega, hfar5, (by show _ = _; rw [List.length_set]; exact HVL.out), hset5, (by show _ = _; rw [List.length_set]; exact hlq.out), hOv2, hbel5⟩
    · obtain rfl : k = 0 := by omega
      obtain rfl : jj = -1 := by have := hjj.out; omega
      have hend := Ov_end hOv.out
      have hp2 : 0 < 2 ^ s := Nat.pow_pos (by omega)
      have hQ : val ql = val a / val b := by rw [hend.1, HVD.out, Nat.mul_div_mul_right _ _ hp2]
      have hR0 : val ul = val a % val b * 2 ^ s := by rw [hend.2, HVD.out, Nat.mul_mod_mul_right]
      have hR : val (ul.take m) = val a % val b * 2 ^ s := by
        rw [← hR0]
        refine val_take_of Ou.b32 ?_
        have h1 := hOv.out.2.1
        rw [List.drop_zero] at h1
        have h2 := val_lt hbd
        rw [HDL.out] at h2
        omega
      have hmc : m ≤ c5 := by have := Ou.lc; rw [hlu.out] at this; omega
      have hn1 := fun w' (h : RW w' w'.heap.size (some ⟨w5.heap.size, 0, none⟩) (a.length + 1 - m) ql) => norm_any (some ⟨w5.heap.size, 0, none⟩) (a.length + 1 - m) (a.length + 1 - m) ql w' hlq.out.symm h
      have hn2 := fun w' (h : RW w' w'.heap.size (some ⟨gu, 0, none⟩) c5 (ul.take m)) => norm_any (some ⟨gu, 0, none⟩) c5 m (ul.take m) w' (by rw [List.length_take, hlu.out]; omega) h
      have hdn := fun w' (h : RW w' w'.heap.size (some ⟨gu, 0, none⟩) c5 (digs (val a % val b * 2 ^ s))) => down_any (some ⟨gu, 0, none⟩) c5 (digs (val a % val b * 2 ^ s)).length (digs (val a % val b * 2 ^ s)) w' s (by omega) rfl h
      simp only [hQ] at hn1
      simp only [hR] at hn2
      simp only [val_digs, Nat.mul_div_cancel _ hp2] at hdn
      have rq := Oq.rw
      have ru := Ou.rw.take m
      have rd := ru.norm
      have Oqn := Oq.norm
      rw [hR] at rd
      rw [hQ] at Oqn
      have BwA := B03.trans (Bw.mono B03.size)
      have hwq : w.heap.size ≤ w5.heap.size := by have h1 := O5.lt.1; have h2 := B03.size; omega
      have HQ := Lib.hid hQ
      have HR := Lib.hid hR
      have HE := Lib.hid hend
      clear hQ hR hR0 hend
      go_wp2
      go_region_with (first
        | (go_at_call_of 62 (w5.heap.size); refine (hn1 _ ?_).mono ?_; (first | exact rq.drewN _ | exact ((Oq.drewN 1).below (by assumption) (Nat.le_refl _)).rw); rintro e w' ⟨rfl, rfl⟩)
        | (go_at_call_of 62 gu; refine (hn2 _ ?_).mono ?_; (exact ru.drewN _); rintro e w' ⟨rfl, rfl⟩)
        | (go_at_call 85; refine (hdn _ ?_).mono ?_; (exact rd.drewN _); rintro e w7 ⟨A7, c7, rfl, O7, B7⟩))
      all_goals
        go_wp2
        go_ret2
        exact ⟨_, _, _, _, rfl, ((Oqn.drewN 1).below B7 (Nat.le_refl _)).base_le hwq, O7.base_le BwA.size, (bdN BwA 1).trans (B7.mono BwA.size)⟩
end Go.Proofs.Ytkjfpaommbjgbaa
namespace Go.Proofs.Ytkjfpaommbjgbaa
open Go.RowKit

theorem wd_of_one {b : List Nat} (h : b.length = 1) : b = [wd b 0] := by
  match b, h with
  | [x], _ => rfl

set_option maxRecDepth 100000 in
set_option maxHeartbeats 2000000 in
theorem over_any (A D : Option Addr) (c d n m : Nat) (a b : List Nat) (w : World) (hn : n = a.length) (hm : m = b.length) (ha : RW w w.heap.size A c a) (hb : RW w w.heap.size D d b) (na : Nrm a) (nb : Nrm b) (h0 : val b ≠ 0) (hla : a.length ≤ 8796093022208) :
    Calls Try.prog 64 #[.slice A n c, .slice D m d] w (RetQ w (val a / val b) (val a % val b)) := by
  subst hn; subst hm
  have ba := ha.b32
  have bb := hb.b32
  have hor := order_any A D c d _ _ a b w rfl rfl ha hb na nb
  by_cases hlt : val a < val b
  · have hcmp : cmpN (val a) (val b) = -1 := by unfold cmpN; rw [if_pos hlt]
    rw [hcmp] at hor
    have hcl := fun q0 => clone_any A c a.length a (w.drewN q0) rfl (ha.drewN q0)
    have hq : val a / val b = 0 := Nat.div_eq_of_lt hlt
    have hr : digs (val a % val b) = a := by rw [Nat.mod_eq_of_lt hlt, digs_val ba na]
    have HQ := Lib.hid hq
    have HR := Lib.hid hr
    clear hq hr hlt hcmp ha hb
    go_enter Try.func64, Try.ntmps64
    go_wp2_with fail
    refine hor.mono ?_; rintro e w1 ⟨rfl, q0, rfl⟩
    go_wp2_with fail
    refine (hcl q0).mono ?_; rintro e w2 ⟨A2, c2, rfl, O2, B2⟩
    go_wp2_with fail
    go_ret2
    rw [HQ.out]
    refine ⟨none, 0, A2, c2, by rw [digs_zero, HR.out]; rfl, by rw [digs_zero]; exact OW.nil _ _, by rw [HR.out]; exact O2, (bdN (Below.refl _ _) q0).trans B2⟩
  · have hll := len_of_le ba nb (by omega)
    have hb0 : 0 < b.length := by
      rcases Nat.eq_zero_or_pos b.length with h | h
      · rw [List.length_eq_zero_iff] at h; subst h; exact absurd rfl h0
      · exact h
    by_cases h1 : b.length = 1
    · have hcmp : ¬ cmpN (val a) (val b) < 0 := by unfold cmpN; split <;> (try split) <;> omega
      obtain ⟨b1, o1, rfl, hlt1, hx⟩ := hb.at_ hb0
      have hx0 := hx 0 hb0
      rw [Nat.add_zero] at hx0
      have e1 := wd_of_one h1
      have hv : val b = wd b 0 := by rw [e1]; simp [val, wd]
      have hwl := wd_lt bb 0
      have hxl := Nat.mod_lt (val a) (show 0 < wd b 0 by omega)
      have hsh := fun q0 => short_any A c a.length a (wd b 0) (w.drewN q0) (by omega) hwl rfl (ha.drewN q0)
      have hle : a.length ≤ 35184372088832 := ha.big
      have hlen1 : ((b.length : Int) == 1) = true := by rw [h1]; rfl
      have hi0 : (0 : Int) < (b.length : Int) := by omega
      generalize hr : val a % wd b 0 = r at *
      have hnm := fun (w1 : World) => norm_any (some ⟨w1.heap.size, 0, none⟩) 1 1 [r] (w1.alloc (.cells #[.int .u32 (r : Int)] 52)) rfl ((RW.one w1 52 (show r < 4294967296 by omega)).more (by simp))
      have hol := fun (w1 : World) => (OW.lit w1 [r] (by simp) (B32_cons (show r < 4294967296 by omega) B32_nil)).norm
      rw [val_one] at hnm
      simp only [val_one] at hol
      rw [hv]
      rw [hr]
      generalize cmpN (val a) (val b) = cmp at *
      have HR := Lib.hid hr
      clear hr hv hx e1 hb ha h0 hxl h1 hll
      go_enter Try.func64, Try.ntmps64
      go_wp2_with fail
      refine hor.mono ?_; rintro e w1 ⟨rfl, q0, rfl⟩
      go_wp2_with fail
      go_at_call 66
      refine (hsh q0).mono ?_; rintro e w2 ⟨A2, c2, rfl, O2, B2⟩
      go_wp2_with fail
      refine (hnm _).mono ?_; rintro e w3 ⟨rfl, rfl⟩
      go_wp2_with fail
      go_ret2
      have B0 := (bdN (Below.refl w.heap.size w) q0).trans B2
      exact ⟨A2, c2, _, 1, rfl, O2.alloc _, (hol _).base_le B0.size, B0.alloc B0.size _⟩
    · exact over_main A D c d b.length a b w ha hb na nb rfl (by omega) (by omega) hla
end Go.Proofs.Ytkjfpaommbjgbaa
namespace Go.Proofs.Ytkjfpaommbjgbaa
open Go.RowKit

/-- an answer of Div: a quotient, what is left, an error's number -/
def RetD (w : World) (r : Nat × Nat × Int) (e : Ending) (w' : World) : Prop :=
  ∃ A1 c1 A2 c2, e = .returned (.tuple #[.slice A1 (digs r.1).length c1, .slice A2 (digs r.2.1).length c2, .int .i64 r.2.2]) ∧
    OW w' w.heap.size A1 c1 (digs r.1) ∧ OW w' w.heap.size A2 c2 (digs r.2.1) ∧ Below w.heap.size w w'
theorem retD_nil {w w' : World} (k : Int) (hb : Below w.heap.size w w') : RetD w (0, 0, k) (.returned (.tuple #[.slice none 0 0, .slice none 0 0, .int .i64 k])) w' :=
  ⟨none, 0, none, 0, by rw [digs_zero]; rfl, by rw [digs_zero]; exact OW.nil _ _, by rw [digs_zero]; exact OW.nil _ _, hb⟩
theorem nrm_pos {l : List Nat} (hn : Nrm l) (hb : B32 l) (h : 0 < l.length) : val l ≠ 0 := by
  intro h0
  have := digs_val hb hn
  rw [h0, digs_zero] at this
  rw [← this] at h; simp at h
def divA (a b : List Nat) : Nat × Nat × Int := if chk2 a b then (if b.length = 0 then (0, 0, 3) else (val a / val b, val a % val b, 0)) else (0, 0, 2)
theorem gcd_step (x y : Nat) : Nat.gcd y (x % y) = Nat.gcd x y := by
  rw [Nat.gcd_comm y, ← Nat.gcd_rec, Nat.gcd_comm]
set_option maxHeartbeats 1000000 in
theorem divisor_any (A D : Option Addr) (c d n m : Nat) (a b : List Nat) (w : World) (hn : n = a.length) (hm : m = b.length) (ha : RW w w.heap.size A c a) (hb : RW w w.heap.size D d b) (na : Nrm a) (nb : Nrm b)
    (hla : a.length ≤ 8796093022208) (hlb : b.length ≤ 8796093022208) :
    Calls Try.prog 47 #[.slice A n c, .slice D m d] w (RetW w (Nat.gcd (val a) (val b))) := by
  subst hn hm
  have HA := Lib.hid ha
  have HB := Lib.hid hb
  clear ha hb
  go_enter Try.func47, Try.ntmps47
  go_wp2_with fail
  go_loopg [0, 1] (val b) (fun g av bv wr => ∃ (Aa Da : Option Addr) (ca da : Nat) (la lb : List Nat), val lb = g ∧ av = .slice Aa la.length ca ∧ bv = .slice Da lb.length da ∧ RW wr wr.heap.size Aa ca la ∧ RW wr wr.heap.size Da da lb ∧
      Hid (Nrm la) ∧ Hid (Nrm lb) ∧ la.length ≤ 8796093022208 ∧ lb.length ≤ 8796093022208 ∧ Hid (Nat.gcd (val la) (val lb) = Nat.gcd (val a) (val b)) ∧ Below w.heap.size w wr)
  case atStart => exact ⟨A, D, c, d, a, b, rfl, rfl, rfl, HA.out, HB.out, na, nb, hla, hlb, rfl, Below.refl _ _⟩
  case round =>
    obtain ⟨Aa, Da, ca, da, la, lb, rfl, rfl, rfl, ra, rb, nla, nlb, ll1, ll2, hg, B⟩ := hrel
    by_cases h0 : 0 < lb.length
    · have hv := nrm_pos nlb.out rb.b32 h0
      have hov := over_any Aa Da ca da _ _ la lb wr rfl rfl ra rb nla.out nlb.out hv ll1
      have hlt : val la % val lb < val lb := Nat.mod_lt _ (by omega)
      have hl3 : (digs (val la % val lb)).length ≤ lb.length := digs_len_le.2 (Nat.lt_trans hlt (val_lt rb.b32))
      have hg2 : Hid (Nat.gcd (val lb) (val (digs (val la % val lb))) = Nat.gcd (val a) (val b)) := by show _ = _; rw [val_digs, gcd_step]; exact hg.out
      have HLT := Lib.hid hlt
      clear hlt
      go_wp2_with fail
      refine hov.mono ?_; rintro e w2 ⟨A1, c1, A2, c2, rfl, O1, O2, B2⟩
      go_wp2_with fail
      go_roundg (val (digs (val la % val lb)))
      case measure => rw [val_digs]; exact HLT.out
      case rel => exact ⟨Da, A2, da, c2, lb, _, rfl, rfl, rfl, rb.step B2 B2.size, O2.rw, nlb, Nrm_digs _, ll2, by omega, hg2, B.trans (B2.mono B.size)⟩
    · have hl0 : lb = [] := List.eq_nil_of_length_eq_zero (by omega)
      subst hl0
      have hcl := clone_any Aa ca la.length la wr rfl ra
      have hfin : Nat.gcd (val a) (val b) = val la := by rw [← hg.out, show val ([] : List Nat) = 0 from rfl, Nat.gcd_zero_right]
      have hda : la = digs (val la) := (digs_val ra.b32 nla.out).symm
      have HF := Lib.hid hfin
      have HD := Lib.hid hda
      clear hfin hda
      go_wp2_with fail
      refine hcl.mono ?_; rintro e w2 ⟨A2, c2, rfl, O2, B2⟩
      go_wp2_with fail
      go_ret
      rw [HF.out]
      rw [HD.out] at O2
      exact ⟨A2, c2, by rw [← HD.out]; rfl, O2.base_le B.size, B.trans (B2.mono B.size)⟩

def gcdA (a b : List Nat) : Nat × Int := if chk2 a b then (Nat.gcd (val a) (val b), 0) else (0, 2)
end Go.Proofs.Ytkjfpaommbjgbaa
namespace Go.Proofs.Ytkjfpaommbjgbaa
open Go.RowKit

theorem dbc_int (x : Nat) : (x : Int) / 2147483648 = (dbc x : Int) := by unfold dbc; simp
theorem dbw_int {x c : Nat} (_hx : x < 4294967296) (hc : c ≤ 1) : bits .or .u32 ((x : Int) * 2 % 4294967296) (c : Int) = (dbw x c : Int) := by
  have h : (x : Int) * 2 % 4294967296 = ((x * 2 % 4294967296 : Nat) : Int) := by omega
  rw [h, u32_or_nat _ _ (by omega) (by omega), dbw_or hc]
set_option maxHeartbeats 1000000 in
theorem rdouble_any (A : Option Addr) (c n : Nat) (a : List Nat) (w : World) (bit : Nat) (hbit : bit ≤ 1) (hn : n = a.length) (ha : RW w w.heap.size A c a) (hla : a.length ≤ 8796093022208) :
    Calls Try.prog 94 #[.slice A n c, .int .u32 (bit : Int)] w (RetW w (2 * val a + bit)) := by
  subst hn
  have ba := ha.b32
  go_enter Try.func94, Try.ntmps94
  go_wp2
  go_loopw [1, 5, 6] (fun cr sv i wr => ∃ (k q : Nat) (A' : Option Addr) (c' : Nat) (o : List Nat), k ≤ a.length ∧ i = .int .i64 (k : Int) ∧ q ≤ 1 ∧ cr = .int .u32 (q : Int) ∧ sv = .slice A' o.length c' ∧ OW wr w.heap.size A' c' o ∧ Hid (o.length = k) ∧
      Hid (val o + q * Wp k = 2 * val (a.take k) + bit) ∧ Below w.heap.size w wr) (fun _ _ i _ => a.length - (intOf i).toNat)
  case atStart => exact ⟨0, bit, _, 0, [], Nat.zero_le _, rfl, hbit, rfl, rfl, OW.empty w, rfl, by show _ = _; simp [val, Wp_zero], (Below.refl w.heap.size w).alloc (Nat.le_refl _) _⟩
  case round =>
    obtain ⟨k, q, A', c', o, hk, rfl, hq, rfl, rfl, hO, hol, hinv, hbel⟩ := hrel
    have hwx := wd_lt ba k
    have ha1 := (ha.below hbel).more hbel.size
    have hol2 : o.length ≤ 17592186044416 := by have := hol.out; omega
    by_cases h0 : k < a.length
    · obtain ⟨b1, o1, rfl, hlt1, hx⟩ := ha1.at_ (by omega)
      have hxk := hx k h0
      have e1 := dbw_int hwx hq
      have e2 := dbc_int (wd a k)
      have hrc := dbc_le hwx
      have hst := Lib.hid (dbl_step h0 hol.out hq hinv.out)
      have hone := RW.one wr 52 (dbw_lt (wd a k) q)
      have hb2 : Below w.heap.size w (wr.alloc (.cells #[.int .u32 (dbw (wd a k) q : Int)] 52)) := hbel.alloc hbel.size _
      have hK : Hid ((o ++ [dbw (wd a k) q]).length = k + 1) := by show _ = _; rw [List.length_append, hol.out]; rfl
      clear hx ha1
      go_wp2_with (at_builtin; refine wp_appW _ rfl _ _ rfl w.heap.size _ _ _ o rfl rfl (hO.alloc _) _ _ _ [dbw (wd a k) q] rfl rfl _ hone (by simp; omega) hb2.size ?_; intro A2 c2 w2 g1 g2 g3; have hb3 := hb2.trans g3; obtain ⟨b2, o2, he, _, hx2⟩ := ((ha.below hb3).more hb3.size).at_ (by omega); cases he; have hxk3 := hx2 k h0; clear hx2)
      go_roundw
      case rel => exact ⟨k + 1, dbc (wd a k), A2, c2, _, by omega, by go_num, hrc, rfl, by rw [List.length_append]; rfl, g1, hK, hst, hb3⟩
      case measure => simp [intOf]; omega
    · obtain rfl : k = a.length := by omega
      have hone := RW.one wr 52 (show q < 4294967296 by omega)
      have hb2 : Below w.heap.size w (wr.alloc (.cells #[.int .u32 (q : Int)] 52)) := hbel.alloc hbel.size _
      have hfin : Hid (val (o ++ [q]) = 2 * val a + bit) := by
        have h := hinv.out
        rw [List.take_length] at h
        show _ = _
        rw [val_append, val_one, hol.out, Nat.mul_comm]; exact h
      clear hk
      go_wp2_with (first
        | (at_builtin; refine wp_appW _ rfl _ _ rfl w.heap.size _ _ _ o rfl rfl (hO.alloc _) _ _ _ [q] rfl rfl _ hone (by simp; omega) hb2.size ?_; intro A2 c2 w2 g1 g2 g3)
        | (go_at_call 70; refine (rnorm_any _ _ _ (o ++ [q]) _ (by simp) g1.rw).mono ?_; rintro e w3 ⟨A3, c3, rfl, g4, g5⟩))
      go_ret
      rw [hfin.out] at g4 ⊢
      have hb3 := hb2.trans g3
      exact ⟨A3, c3, rfl, g4.base_le hb3.size, hb3.trans (g5.mono hb3.size)⟩
end Go.Proofs.Ytkjfpaommbjgbaa
namespace Go.Proofs.Ytkjfpaommbjgbaa
open Go.RowKit

set_option maxRecDepth 100000 in
set_option maxHeartbeats 4000000 in
theorem rover_any (A D : Option Addr) (c d n m : Nat) (a b : List Nat) (w : World) (hn : n = a.length) (hm : m = b.length) (ha : RW w w.heap.size A c a) (hb : RW w w.heap.size D d b) (nb : Nrm b) (h0 : val b ≠ 0)
    (hla : a.length ≤ 1000000) (hlb : b.length ≤ 1000000) :
    Calls Try.prog 77 #[.slice A n c, .slice D m d] w (RetQ w (val a / val b) (val a % val b)) := by
  subst hn hm
  have ba := ha.b32
  have bb := hb.b32
  have hbl : blen (val a) ≤ 32 * a.length := blen_le.2 (val_lt2 ba)
  have hsz := fun w' h => rsize_any A c _ a w' rfl h
  have hNb := Lib.hid (blen_lt (val a))
  obtain ⟨N, hN⟩ : ∃ N, N = val a := ⟨_, rfl⟩
  obtain ⟨V, hV⟩ : ∃ V, V = val b := ⟨_, rfl⟩
  rw [← hN] at hsz hbl hNb
  rw [← hV] at h0
  rw [← hN, ← hV]
  have hst : Hid (N / 2 ^ blen N = 0) := Nat.div_eq_of_lt hNb.out
  have hVw : V < Wp b.length := by rw [hV]; exact val_lt bb
  have hbn : digs V = b := by rw [hV]; exact digs_val bb nb
  generalize blen N = bn at *
  have HN := Lib.hid hN
  have HV := Lib.hid hV
  have HVW := Lib.hid hVw
  have HBN := Lib.hid hbn
  have HA := Lib.hid ha
  have HB := Lib.hid hb
  clear hN hV hVw hbn ha hb
  go_enter Try.func77, Try.ntmps77
  go_wp2_with (at_make; refine wp_makeW _ rfl _ _ rfl .i64 .i64 _ _ a.length rfl rfl (by omega) (by omega) (by omega) ?_; intro w1 hO1 hb1 hs1)
  have hb2 : Below w.heap.size w (w1.alloc (.cells #[] 52)) := hb1.alloc hb1.size _
  refine (hsz _ (HA.out.step hb2 hb2.size)).mono ?_; rintro e w' ⟨rfl, rfl⟩
  go_wp2_with fail
  go_loopg [7, 8] bn (fun g rv kv wr => ∃ (k : Nat) (kk : Int) (Ar : Option Addr) (cr : Nat) (ql : List Nat), k = g ∧ rv = .slice Ar (digs (N / 2 ^ k % V)).length cr ∧ kv = .int .i64 kk ∧ Hid (kk = (k : Int) - 1) ∧ k ≤ 32 * a.length ∧
      OW wr w1.heap.size Ar cr (digs (N / 2 ^ k % V)) ∧ OW wr w.heap.size (some ⟨w.heap.size, 0, none⟩) a.length ql ∧ Hid (ql.length = a.length) ∧ Hid (val ql = 2 ^ k * (N / 2 ^ k / V)) ∧ Hid (w1.heap.size ≤ wr.heap.size) ∧ Hid (w.heap.size + 1 ≤ w1.heap.size) ∧ Below w.heap.size w wr)
  case atStart =>
    have e0 : N / 2 ^ bn % V = 0 := by rw [hst.out, Nat.zero_mod]
    refine ⟨bn, (bn : Int) - 1, some ⟨w1.heap.size, 0, none⟩, 0, List.replicate a.length 0, rfl, ?_, rfl, (by show _ = _; rfl), hbl, ?_, hO1.alloc _, (by show _ = _; simp), (by show _ = _; rw [val_replicate, hst.out]; simp), (by show _ ≤ _; simp), hs1, hb2⟩
    · rw [e0, digs_zero]; rfl
    · rw [e0, digs_zero]; exact OW.empty w1
  case round =>
    obtain ⟨k, kk, Ar, cr, ql, rfl, rfl, rfl, hkk, hk, Or, Oq, hlq, hq, hw1, hws, B⟩ := hrel
    by_cases hk0 : 0 < k
    · obtain ⟨j, rfl⟩ : ∃ j, k = j + 1 := ⟨k - 1, by omega⟩
      obtain rfl : kk = (j : Int) := by have := hkk.out; omega
      have hV0 : 0 < V := by omega
      have hrl : N / 2 ^ (j + 1) % V < V := Nat.mod_lt _ hV0
      have hrL : (digs (N / 2 ^ (j + 1) % V)).length ≤ b.length := digs_len_le.2 (Nat.lt_trans hrl HVW.out)
      have hbit : bitN N j ≤ 1 := by have := bitN_lt N j; omega
      have H1 := bit_any A c _ a wr (j : Int) j rfl (by omega) rfl (HA.out.step B B.size)
      have H2 := rdouble_any Ar cr _ (digs (N / 2 ^ (j + 1) % V)) wr (bitN N j) hbit rfl Or.rw (by omega)
      rw [← HN.out] at H1
      rw [val_digs] at H2
      by_cases hc : 2 * (N / 2 ^ (j + 1) % V) + bitN N j < V
      · obtain ⟨q1, q2⟩ := bq_no hV0 hc
        have hnx : Hid (val ql = 2 ^ j * (N / 2 ^ j / V)) := by show _ = _; rw [hq.out, q1, Nat.pow_succ, Nat.mul_assoc]
        rw [← q2] at H2
        have H3 := fun A2 c2 w2 h1 h2 => rorder_any A2 D c2 d _ _ (digs (N / 2 ^ j % V)) b w2 rfl rfl h1 h2 (Nrm_digs _) nb
        have hcm : cmpN (N / 2 ^ j % V) V = -1 := by unfold cmpN; rw [if_pos (Nat.mod_lt _ hV0)]
        rw [val_digs, ← HV.out, hcm] at H3
        clear hc q1 q2 hcm hrl hrL
        go_wp2_with fail
        refine H1.mono ?_; rintro e w' ⟨rfl, rfl⟩
        go_wp2_with fail
        refine H2.mono ?_; rintro e w2 ⟨A2, c2, rfl, O2, B2⟩
        go_wp2_with fail
        have C2 := B.trans (B2.mono B.size)
        refine (H3 A2 c2 w2 O2.rw (HB.out.step C2 C2.size)).mono ?_; rintro e w3 ⟨rfl, q, rfl⟩
        go_wp2_with fail
        go_roundg j
        case measure => omega
        case rel => exact ⟨j, _, A2, c2, ql, rfl, rfl, rfl, (by show _ = _; rfl), by omega, (O2.base_le hw1.out).drewN q, (Oq.below B2 (Nat.le_refl _)).drewN q, hlq, hnx, Nat.le_trans hw1.out B2.size, hws, bdN C2 q⟩
      · obtain ⟨q1, q2⟩ := bq_yes hV0 hbit (by omega)
        obtain ⟨r1, r2, r3⟩ := or_bit (k := j) Oq.b32 hq.out (by rw [hlq.out]; omega)
        have hnx : Hid (val (ql.set (j / 32) (wd ql (j / 32) + 2 ^ (j % 32))) = 2 ^ j * (N / 2 ^ j / V)) := by
          show _ = _
          rw [r3, hq.out, q1, Nat.pow_succ, Nat.mul_add, Nat.mul_one, Nat.mul_assoc]
        generalize hT : 2 * (N / 2 ^ (j + 1) % V) + bitN N j = T at *
        have H3 := fun A2 c2 w2 h1 h2 => rorder_any A2 D c2 d _ _ (digs T) b w2 rfl rfl h1 h2 (Nrm_digs _) nb
        rw [val_digs, ← HV.out] at H3
        have hcm : 0 ≤ cmpN T V := by unfold cmpN; rw [if_neg hc]; split <;> omega
        have hTl : (digs T).length ≤ b.length + 1 := digs_len_le.2 (by rw [Wp_succ]; have := HVW.out; omega)
        have hlt : b.length ≤ (digs T).length := len_of_le (B32_digs T) nb (by rw [val_digs, ← HV.out]; omega)
        have H4 := fun A2 c2 w2 h1 h2 => rless_any A2 D c2 d _ _ (digs T) b w2 rfl rfl h1 h2 hlt (by rw [val_digs, ← HV.out]; omega) (by omega)
        rw [val_digs, ← HV.out, ← q2] at H4
        generalize cmpN T V = cm at *
        have hwl := wd_lt Oq.b32 (j / 32)
        have hp1 : 2 ^ (j % 32) < 4294967296 := Nat.lt_of_le_of_lt (pow_le32 (Nat.mod_lt _ (by omega))) (by omega)
        have e3 : ∀ X : Int, X = (2 ^ (j % 32) : Nat) → bits .or .u32 (wd ql (j / 32) : Int) X = ((wd ql (j / 32) + 2 ^ (j % 32) : Nat) : Int) := fun X hX => by
          rw [hX, u32_or_nat _ _ hwl hp1, r1]
        have hjl : j / 32 < ql.length := by rw [hlq.out]; omega
        clear hc q1 q2 hrl hrL hT r1 r3
        go_wp2_with fail
        refine H1.mono ?_; rintro e w' ⟨rfl, rfl⟩
        go_wp2_with fail
        refine H2.mono ?_; rintro e w2 ⟨A2, c2, rfl, O2, B2⟩
        go_wp2_with fail
        have C2 := B.trans (B2.mono B.size)
        refine (H3 A2 c2 w2 O2.rw (HB.out.step C2 C2.size)).mono ?_; rintro e w3 ⟨rfl, q, rfl⟩
        go_wp2_with fail
        refine (H4 A2 c2 _ (O2.rw.drewN q) ((HB.out.step C2 C2.size).drewN q)).mono ?_; rintro e w4 ⟨A4, c4, rfl, O4, B4⟩
        have Oq4 := ((Oq.below B2 (Nat.le_refl _)).drewN q).below B4 (Nat.le_refl _)
        have C4 := (bdN C2 q).trans (B4.mono (bdN C2 q).size)
        have e4 : bits .or .u32 (wd ql (j / 32) : Int) ((2 : Int) ^ (j % 32) % 4294967296) = ((wd ql (j / 32) + 2 ^ (j % 32) : Nat) : Int) := e3 _ (by
          have h := Int.natCast_pow 2 (j % 32)
          rw [show ((2 : Nat) : Int) = 2 from rfl] at h
          rw [← h]
          generalize (2 : Nat) ^ (j % 32) = P at *
          omega)
        have E4 := Lib.hid e4
        have hset := Oq4.set (j / 32) r2
        have hsz4 : wr.heap.size ≤ w4.heap.size := Nat.le_trans B2.size B4.size
        have O4' := O4.base_le (show w1.heap.size ≤ (w2.drewN q).heap.size from Nat.le_trans hw1.out B2.size)
        have hfar := O4'.far (p := ⟨w.heap.size, j / 32, none⟩) (fun g hg => by have h := (hg ▸ O4').lt.1; have h2 := hws.out; show g ≠ w.heap.size; omega) (.int .u32 (wd ql (j / 32) + 2 ^ (j % 32) : Nat))
        have hbel2 := C4.setCell (p := ⟨w.heap.size, j / 32, none⟩) (Nat.le_refl _) (.int .u32 (wd ql (j / 32) + 2 ^ (j % 32) : Nat))
        clear e4 e3
        have ce := Oq4.cell hjl
        have fe := Oq4.frozen (j / 32)
        go_wp2_with fail
        go_region
        all_goals
          go_wp2
          go_roundg j
          case measure => omega
          case rel =>
            rw [E4.out]
            exact ⟨j, _, A4, c4, _, rfl, rfl, rfl, (by show _ = _; rfl), by omega, hfar.drewN 1, hset.drewN 1, (by show _ = _; rw [List.length_set]; exact hlq.out), hnx, (by show _ ≤ _; simp only [World.setCell, World.drew, Array.size_modify]; exact Nat.le_trans hw1.out hsz4), hws, bdN hbel2 1⟩
    · obtain rfl : k = 0 := by omega
      obtain rfl : kk = -1 := by have := hkk.out; omega
      have eR : N / 2 ^ 0 % V = N % V := by rw [Nat.pow_zero, Nat.div_one]
      have eQ : val ql = N / V := by rw [hq.out, Nat.pow_zero, Nat.div_one, Nat.one_mul]
      have H5 := rnorm_any (some ⟨w.heap.size, 0, none⟩) a.length a.length ql wr hlq.out.symm Oq.rw
      rw [eQ] at H5
      rw [eR] at Or ⊢
      clear eR eQ
      go_wp2_with fail
      refine H5.mono ?_; rintro e w2 ⟨A2, c2, rfl, O2, B2⟩
      go_wp2_with fail
      go_ret2
      have hb : w.heap.size ≤ w1.heap.size := by have := hws.out; omega
      exact ⟨A2, c2, Ar, cr, rfl, O2.base_le B.size, (Or.below B2 (Nat.le_refl _)).base_le hb, B.trans (B2.mono B.size)⟩
end Go.Proofs.Ytkjfpaommbjgbaa
