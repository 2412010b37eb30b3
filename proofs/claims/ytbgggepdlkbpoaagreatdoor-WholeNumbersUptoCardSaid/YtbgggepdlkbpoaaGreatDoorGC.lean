/- Merged texts: NatN, PlainC, NatQ, NatO, PlainF, PlainG. -/
import Derived.Test.YtbgggepdlkbpoaaGreatDoorGB
namespace Go.Proofs.YtbgggepdlkbpoaaGreatDoor
open Go.RowKit

theorem RW_drop {w : World} {B : Nat} {b off c : Nat} {l : List Nat} (h : RW w B (some ⟨b, off, none⟩) c l) (q : Nat) (hq : q ≤ l.length) : RW w B (some ⟨b, off + q, none⟩) (c - q) (l.drop q) := by
  refine ⟨⟨by rw [List.length_drop]; have := h.lc; omega, by rw [List.length_drop]; have := h.big; omega, fun hn => ?_⟩, B32_drop h.2 q⟩
  rw [List.length_drop] at hn
  obtain ⟨b', off', e, hb, hc⟩ := h.1.at_ (by omega)
  simp only [Option.some.injEq, Addr.mk.injEq, and_true] at e
  obtain ⟨rfl, rfl⟩ := e
  refine ⟨b, off + q, rfl, hb, fun k x hk => ?_⟩
  rw [List.getElem?_drop] at hk
  rw [Nat.add_assoc]
  exact hc _ x hk

def Dn (a o : List Nat) (k i : Nat) : Prop :=
  (∀ j, j < i → wd o j = dnw (wd a (k / 32 + j)) (wd a (k / 32 + j + 1)) (k % 32)) ∧ ∀ j, i ≤ j → wd o j = wd a (k / 32 + j)
theorem Dn_step {a o : List Nat} {k i : Nat} (h : Dn a o k i) (hi : i < o.length) : Dn a (o.set i (dnw (wd a (k / 32 + i)) (wd a (k / 32 + i + 1)) (k % 32))) k (i + 1) := by
  constructor
  · intro j hj
    by_cases e : i = j
    · subst e; rw [wd_set_eq hi]
    · rw [wd_set_ne e]; exact h.1 j (by omega)
  · intro j hj
    rw [wd_set_ne (by omega)]; exact h.2 j (by omega)

set_option maxHeartbeats 2000000 in
theorem down_any (A : Option Addr) (c n : Nat) (a : List Nat) (w : World) (k : Nat) (hk : k ≤ 1000000) (hn : n = a.length) (ha : RW w w.heap.size A c a) :
    Calls Tryz.prog 50 #[.slice A n c, .int .i64 (k : Int)] w (RetW w (val a / 2 ^ k)) := by
  subst hn
  have ba := ha.b32
  have hbig := ha.big
  have hs32 : k % 32 < 32 := Nat.mod_lt _ (by omega)
  by_cases hq : a.length ≤ k / 32
  · have hv : Hid (val a / 2 ^ k = 0) := by
      have := dn_lt ba k
      rw [show a.length - k / 32 = 0 by omega, Wp_zero] at this
      exact Nat.lt_one_iff.1 this
    go_enter Tryz.func50, Tryz.ntmps50
    go_wp2
    go_ret
    rw [hv.out]
    exact ⟨none, 0, by rw [digs_zero]; rfl, by rw [digs_zero]; exact OW.nil _ _, Below.refl _ _⟩
  · obtain ⟨b, off, rfl, hb, _⟩ := ha.at_ (by omega)
    have hlc := ha.lc
    have hck : ¬ c = k / 32 := by omega
    have hcl := clone_any (some ⟨b, off + k / 32, none⟩) (c - k / 32) (a.length - k / 32) (a.drop (k / 32)) w (by rw [List.length_drop]) (RW_drop ha _ (by omega))
    rw [List.length_drop] at hcl
    clear ha
    go_enter Tryz.func50, Tryz.ntmps50
    go_wp2_with fail
    refine hcl.mono ?_; rintro e w1 ⟨A1, c1, rfl, hO1, hb1⟩
    go_wp2_with fail
    go_loopw [20] (fun iv wr => ∃ (i : Nat) (o : List Nat), i ≤ a.length - k / 32 ∧ iv = .int .i64 (i : Int) ∧ OW wr w.heap.size A1 c1 o ∧ Hid (o.length = a.length - k / 32) ∧ Hid (Dn a o k i) ∧ Below w.heap.size w wr) (fun iv _ => (a.length - intOf iv).toNat)
    case atStart => exact ⟨0, _, Nat.zero_le _, rfl, hO1, by show _ = _; rw [List.length_drop], ⟨fun j hj => absurd hj (by omega), fun j _ => wd_drop a j _⟩, hb1⟩
    case round =>
      obtain ⟨i, o, hi, rfl, hO, hol, hD, hbel⟩ := hrel
      by_cases h0 : i < a.length - k / 32
      · have hok : i < o.length := by have := hol.out; omega
        rcases hO.form with ⟨_, _, he⟩ | ⟨g, rfl, hg1, hg2, _⟩
        · rw [he] at hok; simp at hok
        have hoc := hO.cell hok
        rw [hD.out.2 i (Nat.le_refl _)] at hoc
        have hfz := hO.frozen i
        have hwx := wd_lt ba (k / 32 + i)
        have hwy := wd_lt ba (k / 32 + i + 1)
        have hst := Lib.hid (Dn_step hD.out hok)
        have hset := hO.set i (dnw_lt (wd a (k / 32 + i)) (wd a (k / 32 + i + 1)) (k % 32))
        have hbel2 := hbel.setCell (p := ⟨g, i, none⟩) hg1 (.int .u32 (dnw (wd a (k / 32 + i)) (wd a (k / 32 + i + 1)) (k % 32) : Nat))
        by_cases h1 : i + 1 < a.length - k / 32
        · have hok1 : i + 1 < o.length := by have := hol.out; omega
          have hoc1 := hO.cell hok1
          rw [hD.out.2 (i + 1) (by omega), ← Nat.add_assoc] at hoc1
          have e3 : bits .or .u64 (wd a (k / 32 + i) : Int) ((wd a (k / 32 + i + 1) : Int) * 4294967296) = (x2 (wd a (k / 32 + i)) (wd a (k / 32 + i + 1)) : Int) := by
            have h5 : ((wd a (k / 32 + i + 1) : Int) * 4294967296) = ((wd a (k / 32 + i + 1) * 4294967296 : Nat) : Int) := by omega
            rw [h5, u64_or_nat _ _ (by omega) (by omega), or_hi hwx]; rfl
          have hx2 := x2_lt hwx hwy
          have e4 := dnw_int (wd a (k / 32 + i)) (wd a (k / 32 + i + 1)) (k % 32)
          go_wp2
          go_roundw
          case rel => exact ⟨i + 1, _, by omega, by go_num, hset, by show _ = _; rw [List.length_set]; exact hol.out, hst, hbel2⟩
          case measure => simp [intOf]; omega
        · have hy0 := Lib.hid (wd_out (l := a) (k := k / 32 + i + 1) (by omega))
          rw [hy0.out] at hst hset hbel2
          have e4 := dnw_int0 (wd a (k / 32 + i)) (k % 32)
          go_wp2
          go_roundw
          case rel => exact ⟨i + 1, _, by omega, by go_num, hset, by show _ = _; rw [List.length_set]; exact hol.out, hst, hbel2⟩
          case measure => simp [intOf]; omega
      · obtain rfl : i = a.length - k / 32 := by omega
        have hfin := Lib.hid (down_all ba hol.out (fun j hj => hD.out.1 j (by have := hol.out; omega)))
        have hO2 := hO.rw
        go_wp2_with (go_at_call 49; refine (norm_any _ _ _ o _ hol.out.symm hO2).mono ?_; rintro e w' ⟨rfl, rfl⟩)
        go_ret
        have hn := hO.norm
        rw [hfin.out] at hn ⊢
        exact ⟨_, _, rfl, hn, hbel⟩

theorem wd_snoc {o : List Nat} {j : Nat} (h : o.length = j) (x : Nat) : wd (o ++ [x]) j = x := by
  subst h; unfold wd; simp [List.getD_eq_getElem?_getD]
theorem rdn_step {a o : List Nat} {k i : Nat} (ho : o.length = i) (h : ∀ j, j < i → wd o j = dnw (wd a (k / 32 + j)) (wd a (k / 32 + j + 1)) (k % 32)) :
    ∀ j, j < i + 1 → wd (o ++ [dnw (wd a (k / 32 + i)) (wd a (k / 32 + i + 1)) (k % 32)]) j = dnw (wd a (k / 32 + j)) (wd a (k / 32 + j + 1)) (k % 32) := by
  intro j hj
  by_cases e : j < i
  · rw [wd_append_left (by omega)]; exact h j e
  · obtain rfl : j = i := by omega
    exact wd_snoc ho _

end Go.Proofs.YtbgggepdlkbpoaaGreatDoor
namespace Go.Proofs.YtbgggepdlkbpoaaGreatDoor

theorem val_drop {l : List Nat} {k : Nat} (h : k < l.length) : val (l.drop k) = wd l k + 4294967296 * val (l.drop (k + 1)) := by
  rw [drop_wd h]; rfl
theorem val_drop_out {l : List Nat} {k : Nat} (h : l.length ≤ k) : val (l.drop k) = 0 := by rw [List.drop_of_length_le h]; rfl
theorem val_drop_set {o : List Nat} {k j x : Nat} (h : k < j) : val ((o.set k x).drop j) = val (o.drop j) := by rw [List.drop_set_of_lt h]

/-! ### over one word -/
theorem short_step {a o : List Nat} {k d r : Nat} (_hd : 0 < d) (hk : k < a.length) (ho : o.length = a.length) (h : val (a.drop (k + 1)) = val (o.drop (k + 1)) * d + r) :
    val (a.drop k) = val ((o.set k ((r * 4294967296 + wd a k) / d)).drop k) * d + (r * 4294967296 + wd a k) % d := by
  rw [val_drop hk, val_drop (l := o.set k _) (k := k) (by rw [List.length_set]; omega), wd_set_eq (by omega), val_drop_set (by omega), h]
  have e := Nat.div_add_mod (r * 4294967296 + wd a k) d
  generalize (r * 4294967296 + wd a k) / d = q at *
  generalize (r * 4294967296 + wd a k) % d = m at *
  rw [Nat.add_mul, Nat.mul_comm q d, Nat.mul_assoc]
  generalize val (o.drop (k + 1)) * d = x at *
  omega
theorem short_lt {r d x : Nat} (hd : 0 < d) (hr : r < d) (hx : x < 4294967296) : (r * 4294967296 + x) / d < 4294967296 := by
  rw [Nat.div_lt_iff_lt_mul hd]
  have := Nat.mul_le_mul_right 4294967296 (show r + 1 ≤ d by omega)
  rw [Nat.add_mul] at this
  omega
theorem short_end {n o d r : Nat} (hd : 0 < d) (hr : r < d) (h : n = o * d + r) : o = n / d ∧ r = n % d := by
  subst h
  rw [Nat.mul_comm, Nat.mul_add_div hd, Nat.div_eq_of_lt hr, Nat.mul_add_mod, Nat.mod_eq_of_lt hr]
  exact ⟨by omega, rfl⟩

/-! ### the estimate of a digit. X: what is left from the place j on (n + 1 words); d: the divisor, of n words; v1, v2: its two highest; top, u2: X's three highest -/
theorem est_start {X d top v1 P : Nat} (hX : X < (top + 1) * P) (hd : v1 * P ≤ d) (hv : 0 < v1) : X < (top / v1 + 1) * d := by
  have h1 : top + 1 ≤ (top / v1 + 1) * v1 := by
    have := Nat.div_add_mod top v1
    have := Nat.mod_lt top hv
    rw [Nat.add_mul, Nat.mul_comm (top / v1)]; omega
  calc X < (top + 1) * P := hX
    _ ≤ (top / v1 + 1) * v1 * P := Nat.mul_le_mul_right _ h1
    _ = (top / v1 + 1) * (v1 * P) := by rw [Nat.mul_assoc]
    _ ≤ (top / v1 + 1) * d := Nat.mul_le_mul_left _ hd
/-- a digit that is too large by the test of the second word -/
theorem est_dec {X d top rest t v1 v2 u2 P : Nat} (hX : X < (top * 4294967296 + u2 + 1) * P) (hd : (v1 * 4294967296 + v2) * P ≤ d) (hr : t * v1 + rest = top) (h : rest * 4294967296 + u2 < t * v2) : X < t * d := by
  have h1 : top * 4294967296 + u2 + 1 ≤ t * (v1 * 4294967296 + v2) := by
    rw [Nat.mul_add, ← Nat.mul_assoc, ← hr, Nat.add_mul]; omega
  calc X < (top * 4294967296 + u2 + 1) * P := hX
    _ ≤ t * (v1 * 4294967296 + v2) * P := Nat.mul_le_mul_right _ h1
    _ = t * ((v1 * 4294967296 + v2) * P) := by rw [Nat.mul_assoc]
    _ ≤ t * d := Nat.mul_le_mul_left _ hd
/-- a digit that passes the test is at most one too large -/
theorem est_end {X d top rest t v1 v2 u2 P : Nat} (hX : (top * 4294967296 + u2) * P ≤ X) (hd : d ≤ (v1 * 4294967296 + v2 + 1) * P) (hr : t * v1 + rest = top) (ht : t ≤ 4294967295) (hv1 : 1 ≤ v1) (h : t * v2 ≤ rest * 4294967296 + u2) : (t - 1) * d ≤ X := by
  have h1 : (t - 1) * (v1 * 4294967296 + v2 + 1) ≤ top * 4294967296 + u2 := by
    rcases Nat.eq_zero_or_pos t with h0 | h0
    · subst h0; simp
    · have e : t * (v1 * 4294967296 + v2) ≤ top * 4294967296 + u2 := by
        rw [Nat.mul_add, ← Nat.mul_assoc, ← hr, Nat.add_mul]; omega
      obtain ⟨s, rfl⟩ : ∃ s, t = s + 1 := ⟨t - 1, by omega⟩
      rw [Nat.add_sub_cancel, Nat.mul_add, Nat.mul_one]
      rw [Nat.add_mul, Nat.one_mul] at e
      have : 1 * 4294967296 ≤ v1 * 4294967296 := Nat.mul_le_mul_right _ hv1
      omega
  calc (t - 1) * d ≤ (t - 1) * ((v1 * 4294967296 + v2 + 1) * P) := Nat.mul_le_mul_left _ hd
    _ = (t - 1) * (v1 * 4294967296 + v2 + 1) * P := by rw [Nat.mul_assoc]
    _ ≤ (top * 4294967296 + u2) * P := Nat.mul_le_mul_right _ h1
    _ ≤ X := hX
/-- where the rest has passed a word the test is passed -/
theorem est_brk {top rest t v1 v2 u2 : Nat} (hr : t * v1 + rest = top) (htop : top ≤ v1 * 4294967296 + 4294967295) (_hv1 : 0 < v1) (hv2 : v2 < 4294967296) (hb : 4294967296 ≤ rest) : t ≤ 4294967295 ∧ t * v2 ≤ rest * 4294967296 + u2 := by
  have h1 : t * v1 < 4294967296 * v1 := by rw [Nat.mul_comm 4294967296]; omega
  have h2 : t < 4294967296 := Nat.lt_of_mul_lt_mul_right h1
  refine ⟨by omega, ?_⟩
  have h3 : t * v2 ≤ 4294967296 * 4294967296 := Nat.mul_le_mul (by omega) (by omega)
  have h4 : 4294967296 * 4294967296 ≤ rest * 4294967296 := Nat.mul_le_mul_right _ hb
  omega

/-! ### a digit times the divisor, taken away -/
def msC (c t x : Nat) : Nat := c + t * x
/-- the word that is left -/
def msF (u c b : Nat) : Nat := (u + 18446744073709551616 - c % 4294967296 - b) % 4294967296
def msB (u c b : Nat) : Nat := if u < c % 4294967296 + b then 1 else 0
theorem ms_eq {u c b : Nat} (hu : u < 4294967296) (hb : b ≤ 1) : msF u c b + c + b = u + 4294967296 * (c / 4294967296 + msB u c b) := by
  unfold msF msB; split <;> omega
theorem ms_step {u u' d : List Nat} {i j t c b : Nat} (hk : i + j < u'.length) (hu : B32 u') (hb : b ≤ 1) (h : val u' + t * val (d.take i) * Wp j = val u + (c + b) * Wp (i + j)) :
    val (u'.set (i + j) (msF (wd u' (i + j)) (msC c t (wd d i)) b)) + t * val (d.take (i + 1)) * Wp j = val u + (msC c t (wd d i) / 4294967296 + msB (wd u' (i + j)) (msC c t (wd d i)) b) * Wp (i + 1 + j) := by
  have h1 := val_set (msF (wd u' (i + j)) (msC c t (wd d i)) b) hk
  have e := ms_eq (c := msC c t (wd d i)) (wd_lt hu (i + j)) hb
  have e0 : msC c t (wd d i) = c + t * wd d i := rfl
  generalize msF (wd u' (i + j)) (msC c t (wd d i)) b = f at *
  generalize msB (wd u' (i + j)) (msC c t (wd d i)) b = g at *
  generalize msC c t (wd d i) = C at *
  rw [val_take_succ', Nat.mul_add, Nat.add_mul, show i + 1 + j = (i + j) + 1 by omega, Wp_succ]
  have e2 : (f + C + b) * Wp (i + j) = (wd u' (i + j) + 4294967296 * (C / 4294967296 + g)) * Wp (i + j) := by rw [e]
  rw [e0, Nat.add_mul, Nat.add_mul, Nat.add_mul, Nat.add_mul (wd u' (i + j))] at e2
  rw [e0]
  have e3 : t * (wd d i * Wp i) * Wp j = t * wd d i * Wp (i + j) := by rw [Wp_add, Nat.mul_assoc, Nat.mul_assoc, Nat.mul_assoc]
  have e4 : ((c + t * wd d i) / 4294967296 + g) * (4294967296 * Wp (i + j)) = 4294967296 * ((c + t * wd d i) / 4294967296 + g) * Wp (i + j) := by rw [← Nat.mul_assoc, Nat.mul_comm _ 4294967296]
  rw [e3, e4]
  rw [Nat.add_mul] at h
  generalize 4294967296 * ((c + t * wd d i) / 4294967296 + g) * Wp (i + j) = Z at *
  generalize t * wd d i * Wp (i + j) = Y at *
  generalize t * val (d.take i) * Wp j = V at *
  omega
end Go.Proofs.YtbgggepdlkbpoaaGreatDoor
namespace Go.Proofs.YtbgggepdlkbpoaaGreatDoor
open Go.RowKit

def sdiv (r x d : Nat) : Nat := (r * 4294967296 + x) / d
def smod (r x d : Nat) : Nat := (r * 4294967296 + x) % d
def scat (r x : Nat) : Nat := r * 4294967296 + x
theorem scat_or {r x : Nat} (hr : r < 4294967296) (hx : x < 4294967296) : bits .or .u64 ((r : Int) * 4294967296) (x : Int) = (scat r x : Int) := by
  have h : ((r : Int) * 4294967296) = ((r * 4294967296 : Nat) : Int) := by omega
  rw [h, u64_or_nat _ _ (by omega) (by omega), Nat.or_comm, or_hi hx, Nat.add_comm]; rfl
theorem scat_lt {r x : Nat} (hr : r < 4294967296) (hx : x < 4294967296) : scat r x ≤ 18446744073709551615 := by unfold scat; omega
theorem scat_div (r x d : Nat) : (scat r x : Int) / (d : Int) = (sdiv r x d : Int) := by unfold scat sdiv; simp
theorem scat_mod (r x d : Nat) : (scat r x : Int) % (d : Int) = (smod r x d : Int) := by unfold scat smod; simp

def RetW2 (w : World) (N r : Nat) (e : Ending) (w' : World) : Prop :=
  ∃ A' c', e = .returned (.tuple #[.slice A' (digs N).length c', .int .u32 (r : Int)]) ∧ OW w' w.heap.size A' c' (digs N) ∧ Below w.heap.size w w'

set_option maxHeartbeats 1000000 in
theorem short_any (A : Option Addr) (c n : Nat) (a : List Nat) (d : Nat) (w : World) (hd : 0 < d) (hd2 : d < 4294967296) (hn : n = a.length) (ha : RW w w.heap.size A c a) :
    Calls Tryz.prog 71 #[.slice A n c, .int .u32 (d : Int)] w (RetW2 w (val a / d) (val a % d)) := by
  subst hn
  have ba := ha.b32
  have hla := ha.big
  go_enter Tryz.func71, Tryz.ntmps71
  go_wp2_with (at_make; refine wp_makeW _ rfl _ _ rfl .i64 .i64 _ _ a.length rfl rfl (by omega) (by omega) (by omega) ?_; intro w1 hO1 hb1 hs1)
  go_loopw [7, 8] (fun rv iv wr => ∃ (k r : Nat) (o : List Nat), k ≤ a.length ∧ iv = .int .i64 ((k : Int) - 1) ∧ r < d ∧ rv = .int .u64 (r : Int) ∧ OW wr w.heap.size (some ⟨w.heap.size, 0, none⟩) a.length o ∧ Hid (o.length = a.length) ∧
      Hid (val (a.drop k) = val (o.drop k) * d + r) ∧ Below w.heap.size w wr) (fun _ iv _ => (intOf iv + 1).toNat)
  case atStart => exact ⟨a.length, 0, _, Nat.le_refl _, rfl, hd, rfl, hO1, by show _ = _; simp, by show _ = _; rw [List.drop_length, List.drop_of_length_le (by simp)]; simp [val], hb1⟩
  case round =>
    obtain ⟨k, r, o, hk, rfl, hr, rfl, hO, hol, hinv, hbel⟩ := hrel
    have ha1 := ha.below hbel
    by_cases h0 : 0 < k
    · obtain ⟨b1, o1, rfl, hlt1, hx⟩ := ha1.at_ (by omega)
      obtain ⟨j, rfl⟩ : ∃ j, k = j+1 := ⟨k-1, by omega⟩
      have hxk := hx j (by omega)
      have hwx := wd_lt ba j
      have hr2 : r < 4294967296 := by omega
      have hok : j < o.length := by have := hol.out; omega
      have hoc := hO.cell hok
      have hfz := hO.frozen j
      have e1 := scat_or hr2 hwx
      have hsl := scat_lt hr2 hwx
      have e2 := scat_div r (wd a j) d
      have e3 := scat_mod r (wd a j) d
      have hq : sdiv r (wd a j) d < 4294967296 := short_lt hd hr hwx
      have hrm : smod r (wd a j) d < d := Nat.mod_lt _ hd
      have hset := hO.set j hq
      have hst : Hid (val (a.drop j) = val ((o.set j (sdiv r (wd a j) d)).drop j) * d + smod r (wd a j) d) := short_step hd (by omega) hol.out hinv.out
      have hbel2 := hbel.setCell (p := ⟨w.heap.size, j, none⟩) (Nat.le_refl _) (.int .u32 (sdiv r (wd a j) d : Nat))
      clear hx ha ha1
      go_wp2
      go_roundw
      case rel => exact ⟨j, _, _, by omega, by go_num, hrm, rfl, hset, by show _ = _; rw [List.length_set]; exact hol.out, hst, hbel2⟩
      case measure => simp [intOf]
    · obtain rfl : k = 0 := by omega
      have hfin := hinv.out
      rw [List.drop_zero, List.drop_zero] at hfin
      have hf1 := Lib.hid (short_end hd hr hfin).1
      have hf2 := Lib.hid (short_end hd hr hfin).2
      clear hfin
      have hO2 := hO.rw
      go_wp2_with (go_at_call 49; refine (norm_any _ _ _ o _ hol.out.symm hO2).mono ?_; rintro e w' ⟨rfl, rfl⟩)
      go_ret2
      have hn := hO.norm
      rw [hf1.out] at hn ⊢
      rw [← hf2.out]
      exact ⟨_, _, rfl, hn, hbel⟩
end Go.Proofs.YtbgggepdlkbpoaaGreatDoor
namespace Go.Proofs.YtbgggepdlkbpoaaGreatDoor
open Go.RowKit

def shiftA (a : List Nat) (i : Int) : Nat × Int :=
  if soundB a then (if i < -16384 ∨ i > 16384 then (0, 1) else if i < 0 then (val a / 2 ^ (-i).toNat, 0) else fitA (val a * 2 ^ i.toNat)) else (0, 2)
theorem down_i (A : Option Addr) (c n : Nat) (a : List Nat) (w : World) (i : Int) (k : Nat) (hi : i = (k : Int)) (hk : k ≤ 1000000) (hn : n = a.length) (ha : RW w w.heap.size A c a) :
    Calls Tryz.prog 50 #[.slice A n c, .int .i64 i] w (RetW w (val a / 2 ^ k)) := by subst hi; exact down_any A c n a w k hk hn ha
theorem up_i (A : Option Addr) (c n : Nat) (a : List Nat) (w : World) (i : Int) (k : Nat) (hi : i = (k : Int)) (hk : k ≤ 1000000) (hn : n = a.length) (ha : RW w w.heap.size A c a) (hla : a.length ≤ 17592186044416) :
    Calls Tryz.prog 26 #[.slice A n c, .int .i64 i] w (RetW w (val a * 2 ^ k)) := by subst hi; exact up_any A c n a w k hk hn ha hla
end Go.Proofs.YtbgggepdlkbpoaaGreatDoor
namespace Go.Proofs.YtbgggepdlkbpoaaGreatDoor

/-- the state of the loop: what is left (u) and the quotient's words (q), behind the places from k on -/
def Ov (U : Nat) (u d q : List Nat) (k : Nat) : Prop :=
  val u + val d * val q = U ∧ val (u.drop k) < val d ∧ ∀ t, t < k → wd q t = 0

theorem val_take_drop (l : List Nat) (k : Nat) (h : k ≤ l.length) : val l = val (l.take k) + Wp k * val (l.drop k) := by
  have := val_split l k; rwa [Nat.min_eq_left h] at this
theorem take_eq_of_wd {a b : List Nat} {k : Nat} (hl : a.length = b.length) (h : ∀ t, t < k → wd a t = wd b t) : a.take k = b.take k := by
  refine wd_ext (by rw [List.length_take, List.length_take, hl]) fun t ht => ?_
  rw [List.length_take] at ht
  rw [wd_take (by omega), wd_take (by omega)]
  exact h t (by omega)

/-- what is left from a place on is less than a word times the divisor -/
theorem Ov_lt {U : Nat} {u d q : List Nat} {j : Nat} (hu : B32 u) (hj : j < u.length) (h : Ov U u d q (j + 1)) : val (u.drop j) < 4294967296 * val d := by
  rw [val_drop hj]
  have h1 := h.2.1
  have h2 := wd_lt hu j
  have := Nat.mul_le_mul_left 4294967296 (show val (u.drop (j + 1)) + 1 ≤ val d by omega)
  omega

/-- behind a digit: the words below the place are as they were, and what is left from it on is less than the divisor -/
theorem Ov_step {U : Nat} {u u' d q : List Nat} {j t : Nat} (hj : j < u.length) (hq : j < q.length) (hl : u'.length = u.length) (ht : ∀ i, i < j → wd u' i = wd u i)
    (h : Ov U u d q (j + 1)) (hv : val u' + t * val d * Wp j = val u) (hX : val (u.drop j) < (t + 1) * val d) : Ov U u' d (q.set j t) j := by
  have h1 := val_set (o := q) (k := j) t hq
  rw [h.2.2 j (by omega), Nat.zero_mul, Nat.add_zero] at h1
  refine ⟨?_, ?_, fun i hi => ?_⟩
  · rw [h1, Nat.mul_add, ← h.1, ← hv]
    have : val d * (t * Wp j) = t * val d * Wp j := by rw [← Nat.mul_assoc, Nat.mul_comm (val d) t]
    omega
  · have e1 := val_take_drop u j (by omega)
    have e2 := val_take_drop u' j (by omega)
    rw [take_eq_of_wd hl ht] at e2
    have hp := Wp_pos j
    have e3 : Wp j * (val (u'.drop j) + t * val d) = Wp j * val (u.drop j) := by
      rw [Nat.mul_add, Nat.mul_comm (Wp j) (t * val d)]; omega
    have e4 := Nat.eq_of_mul_eq_mul_left hp e3
    rw [Nat.add_mul, Nat.one_mul] at hX
    omega
  · rw [wd_set_ne (by omega)]; exact h.2.2 i (by omega)
theorem Ov_end {U : Nat} {u d q : List Nat} (h : Ov U u d q 0) : val q = U / val d ∧ val u = U % val d := by
  have h2 := h.2.1
  rw [List.drop_zero] at h2
  have h1 := h.1
  have hd : 0 < val d := by omega
  exact short_end hd h2 (by rw [Nat.mul_comm]; omega)

/-! ### the digit is taken away -/
def Ms (u d u' : List Nat) (j t i c b : Nat) : Prop :=
  u'.length = u.length ∧ (∀ k, k < j → wd u' k = wd u k) ∧ (∀ k, i + j ≤ k → wd u' k = wd u k) ∧ val u' + t * val (d.take i) * Wp j = val u + (c + b) * Wp (i + j)
theorem Ms_start (u d : List Nat) (j t : Nat) : Ms u d u j t 0 0 0 := ⟨rfl, fun _ _ => rfl, fun _ _ => rfl, by simp [val]⟩
theorem Ms_step {u d u' : List Nat} {j t i c b : Nat} (hk : i + j < u.length) (hu : B32 u') (hb : b ≤ 1) (h : Ms u d u' j t i c b) :
    Ms u d (u'.set (i + j) (msF (wd u' (i + j)) (msC c t (wd d i)) b)) j t (i + 1) (msC c t (wd d i) / 4294967296) (msB (wd u' (i + j)) (msC c t (wd d i)) b) := by
  refine ⟨by rw [List.length_set]; exact h.1, fun k hk => by rw [wd_set_ne (by omega)]; exact h.2.1 k hk, fun k hk => by rw [wd_set_ne (by omega)]; exact h.2.2.1 k (by omega), ?_⟩
  exact ms_step (by rw [h.1]; exact hk) hu hb h.2.2.2
theorem msC_lt {c t x : Nat} (hc : c < 4294967296) (ht : t ≤ 4294967295) (hx : x < 4294967296) : msC c t x ≤ 18446744069414584320 ∧ msC c t x / 4294967296 < 4294967296 := by
  have := Nat.mul_le_mul ht (show x ≤ 4294967295 by omega)
  unfold msC; omega
theorem msF_lt (u c b : Nat) : msF u c b < 4294967296 := Nat.mod_lt _ (by omega)
theorem msB_le (u c b : Nat) : msB u c b ≤ 1 := by unfold msB; split <;> omega
/-- the highest word: nothing is owed -/
theorem Ms_no {u d u' : List Nat} {j t n c b : Nat} (hn : d.length = n) (hk : n + j < u.length) (h : Ms u d u' j t n c b) (hc : c + b ≤ wd u' (n + j)) :
    val (u'.set (n + j) (wd u' (n + j) - (c + b))) + t * val d * Wp j = val u := by
  have h1 := val_set (o := u') (k := n + j) (wd u' (n + j) - (c + b)) (by rw [h.1]; exact hk)
  have h2 := h.2.2.2
  rw [← hn, List.take_length, hn] at h2
  have e : wd u' (n + j) * Wp (n + j) = (wd u' (n + j) - (c + b)) * Wp (n + j) + (c + b) * Wp (n + j) := by rw [← Nat.add_mul]; congr 1; omega
  omega
/-- .. or a word above is owed -/
theorem Ms_yes {u d u' : List Nat} {j t n c b : Nat} (hn : d.length = n) (hk : n + j < u.length) (h : Ms u d u' j t n c b) (_hc : wd u' (n + j) < c + b) (hw : c + b ≤ 4294967296) :
    val (u'.set (n + j) (wd u' (n + j) + 4294967296 - (c + b))) + t * val d * Wp j = val u + Wp (n + j + 1) := by
  have h1 := val_set (o := u') (k := n + j) (wd u' (n + j) + 4294967296 - (c + b)) (by rw [h.1]; exact hk)
  have h2 := h.2.2.2
  rw [← hn, List.take_length, hn] at h2
  have e : wd u' (n + j) * Wp (n + j) + 4294967296 * Wp (n + j) = (wd u' (n + j) + 4294967296 - (c + b)) * Wp (n + j) + (c + b) * Wp (n + j) := by rw [← Nat.add_mul, ← Nat.add_mul]; congr 1; omega
  rw [Wp_succ]
  omega

/-! ### one digit too many is put back -/
def Ab (u d u' : List Nat) (j i c : Nat) : Prop :=
  u'.length = u.length ∧ (∀ k, k < j → wd u' k = wd u k) ∧ (∀ k, i + j ≤ k → wd u' k = wd u k) ∧ val u' + c * Wp (i + j) = val u + val (d.take i) * Wp j
theorem Ab_start (u d : List Nat) (j : Nat) : Ab u d u j 0 0 := ⟨rfl, fun _ _ => rfl, fun _ _ => rfl, by simp [val]⟩
theorem Ab_step {u d u' : List Nat} {j i c : Nat} (hk : i + j < u.length) (h : Ab u d u' j i c) :
    Ab u d (u'.set (i + j) (addf (wd u' (i + j)) (wd d i) c)) j (i + 1) (addc (wd u' (i + j)) (wd d i) c) := by
  refine ⟨by rw [List.length_set]; exact h.1, fun k hk => by rw [wd_set_ne (by omega)]; exact h.2.1 k hk, fun k hk => by rw [wd_set_ne (by omega)]; exact h.2.2.1 k (by omega), ?_⟩
  have h1 := val_set (o := u') (k := i + j) (addf (wd u' (i + j)) (wd d i) c) (by rw [h.1]; exact hk)
  have h3 := h.2.2.2
  have e := add_eq (wd u' (i + j)) (wd d i) c
  generalize addf (wd u' (i + j)) (wd d i) c = f at *
  generalize addc (wd u' (i + j)) (wd d i) c = g at *
  have e2 : (f + g * 4294967296) * Wp (i + j) = (wd u' (i + j) + wd d i + c) * Wp (i + j) := by rw [e]
  rw [Nat.add_mul, Nat.add_mul, Nat.add_mul] at e2
  rw [val_take_succ', Nat.add_mul, show i + 1 + j = (i + j) + 1 by omega, Wp_succ]
  have e3 : g * (4294967296 * Wp (i + j)) = g * 4294967296 * Wp (i + j) := by rw [Nat.mul_assoc]
  have e4 : wd d i * Wp i * Wp j = wd d i * Wp (i + j) := by rw [Wp_add, Nat.mul_assoc]
  rw [e3, e4]
  omega
/-- the highest word takes the carry and falls over -/
theorem Ab_end {u d u' : List Nat} {j n c V : Nat} (hB : B32 u') (hn : d.length = n) (hk : n + j < u.length) (hz : ∀ k, n + j + 1 ≤ k → wd u k = 0) (h : Ab u d u' j n c) (hc : c ≤ 1)
    (hV : val u + val d * Wp j = V + Wp (n + j + 1)) : val (u'.set (n + j) ((wd u' (n + j) + c) % 4294967296)) = V := by
  have h1 := val_set (o := u') (k := n + j) ((wd u' (n + j) + c) % 4294967296) (by rw [h.1]; exact hk)
  have h2 := h.2.2.2
  rw [← hn, List.take_length, hn] at h2
  have hx := wd_lt hB (n + j)
  -- above the highest word there is nothing
  have h3 := val_take_drop u' (n + j + 1) (by rw [h.1]; omega)
  have hz2 : val (u'.drop (n + j + 1)) = 0 := by
    have : u'.drop (n + j + 1) = List.replicate (u'.length - (n + j + 1)) 0 := by
      refine wd_ext (by simp) fun k hk => ?_
      rw [wd_replicate, wd_drop, h.2.2.1 _ (by omega), hz _ (by omega)]
    rw [this, val_replicate]
  rw [hz2, Nat.mul_zero, Nat.add_zero] at h3
  have h4 := val_take_lt hB (n + j + 1)
  rw [val_take_succ'] at h3
  have h5 := val_take_lt hB (n + j)
  rw [Wp_succ] at hV h4
  by_cases ho : wd u' (n + j) + c < 4294967296
  · exfalso
    have e : (wd u' (n + j) + c) * Wp (n + j) ≤ 4294967295 * Wp (n + j) := Nat.mul_le_mul_right _ (by omega)
    rw [Nat.add_mul] at e
    omega
  · have e0 : wd u' (n + j) + c = 4294967296 := by omega
    rw [e0, Nat.mod_self, Nat.zero_mul, Nat.add_zero] at h1
    have e : (wd u' (n + j) + c) * Wp (n + j) = 4294967296 * Wp (n + j) := by rw [e0]
    rw [Nat.add_mul] at e
    rw [e0, Nat.mod_self]
    omega
end Go.Proofs.YtbgggepdlkbpoaaGreatDoor
namespace Go.Proofs.YtbgggepdlkbpoaaGreatDoor

theorem wd_zero_of {l : List Nat} {k t : Nat} (hb : B32 l) (h : val l < Wp k) (ht : k ≤ t) : wd l t = 0 := by
  rw [wd_val hb, Nat.div_eq_of_lt (Nat.lt_of_lt_of_le h (Wp_mono ht))]
theorem val_take_of {l : List Nat} {k : Nat} (hb : B32 l) (h : val l < Wp k) : val (l.take k) = val l := by
  by_cases hk : l.length ≤ k
  · exact val_take_all hk
  · have h1 := val_take_drop l k (by omega)
    have h2 : val (l.drop k) = 0 := by
      have : l.drop k = List.replicate (l.length - k) 0 := by
        refine wd_ext (by simp) fun t ht => ?_
        rw [wd_replicate, wd_drop, wd_zero_of hb h (by omega)]
      rw [this, val_replicate]
    rw [h2] at h1; omega
/-- a number of at most p + 3 words by its three highest -/
theorem three_top {l : List Nat} {p : Nat} (hb : B32 l) (h : val l < Wp (p + 3)) :
    ∃ low, low < Wp p ∧ val l = low + ((wd l (p + 2) * 4294967296 + wd l (p + 1)) * 4294967296 + wd l p) * Wp p := by
  refine ⟨val (l.take p), val_take_lt hb p, ?_⟩
  rw [← val_take_of hb h, val_take_succ', val_take_succ', val_take_succ', Wp_succ (p + 1), Wp_succ p]
  generalize wd l (p + 2) = x
  generalize wd l (p + 1) = y
  generalize wd l p = z
  rw [Nat.add_mul, Nat.add_mul, Nat.add_mul]
  have e1 : y * (4294967296 * Wp p) = y * 4294967296 * Wp p := by rw [Nat.mul_assoc]
  have e2 : x * (4294967296 * (4294967296 * Wp p)) = x * 4294967296 * 4294967296 * Wp p := by rw [← Nat.mul_assoc, ← Nat.mul_assoc]
  rw [e1, e2]
  omega
theorem two_top {l : List Nat} {p : Nat} (hb : B32 l) (h : l.length = p + 2) : ∃ low, low < Wp p ∧ val l = low + (wd l (p + 1) * 4294967296 + wd l p) * Wp p := by
  refine ⟨val (l.take p), val_take_lt hb p, ?_⟩
  rw [← val_take_all (l := l) (k := p + 2) (by omega), val_take_succ', val_take_succ', Wp_succ, Nat.add_mul]
  have e1 : wd l (p + 1) * (4294967296 * Wp p) = wd l (p + 1) * 4294967296 * Wp p := by rw [Nat.mul_assoc]
  rw [e1]
  omega

/-- what is known of a digit's estimate: X is what is left from the place j on, d the divisor -/
structure Est (X d top u2 v1 v2 P : Nat) : Prop where
  hi : X < (top * 4294967296 + u2 + 1) * P
  lo : (top * 4294967296 + u2) * P ≤ X
  dlo : (v1 * 4294967296 + v2) * P ≤ d
  dhi : d ≤ (v1 * 4294967296 + v2 + 1) * P
  top : top ≤ v1 * 4294967296 + 4294967295
  v1 : 2147483648 ≤ v1
  v2 : v2 < 4294967296
  XW : X < 4294967296 * d
  u2 : u2 < 4294967296

theorem low_lt {low P T : Nat} (h : low < P) : low + T * P < (T + 1) * P := by rw [Nat.add_mul, Nat.one_mul]; omega
theorem est_of {u d : List Nat} {j p : Nat} (hu : B32 u) (hd : B32 d) (hl : d.length = p + 2) (h1 : 2147483648 ≤ wd d (p + 1)) (hX : val (u.drop j) < 4294967296 * val d) (hI : val (u.drop (j + 1)) < val d) :
    Est (val (u.drop j)) (val d) (wd u (j + (p + 2)) * 4294967296 + wd u (j + (p + 1))) (wd u (j + p)) (wd d (p + 1)) (wd d p) (Wp p) := by
  have hdl := val_lt hd
  rw [hl] at hdl
  have hbu : B32 (u.drop j) := B32_drop hu j
  obtain ⟨lowd, hld, ed⟩ := two_top hd hl
  have hXW : val (u.drop j) < Wp (p + 3) := by
    have := Nat.mul_le_mul_left 4294967296 (Nat.le_of_lt hdl)
    rw [Wp_succ]; omega
  obtain ⟨low, hlo, eX⟩ := three_top hbu hXW
  rw [wd_drop, wd_drop, wd_drop] at eX
  -- the highest word is at most the divisor's
  have htop : wd u (j + (p + 2)) ≤ wd d (p + 1) := by
    have hbu1 : B32 (u.drop (j + 1)) := B32_drop hu _
    have a1 := val_take_of hbu1 (Nat.lt_trans hI hdl)
    have a2 := val_take_succ' (u.drop (j + 1)) (p + 1)
    rw [a1, wd_drop, show j + 1 + (p + 1) = j + (p + 2) by omega] at a2
    have a3 : val d < (wd d (p + 1) + 1) * Wp (p + 1) := by
      have b1 := val_take_succ' d (p + 1)
      rw [val_take_all (by omega)] at b1
      have b2 := val_take_lt hd (p + 1)
      rw [Nat.add_mul]; omega
    have a4 : wd u (j + (p + 2)) * Wp (p + 1) < (wd d (p + 1) + 1) * Wp (p + 1) := by omega
    have := Nat.lt_of_mul_lt_mul_right a4
    omega
  have hx1 := wd_lt hu (j + (p + 1))
  have hx2 := wd_lt hu (j + p)
  have hv2 := wd_lt hd p
  generalize wd u (j + (p + 2)) = x0 at *
  generalize wd u (j + (p + 1)) = x1 at *
  generalize wd u (j + p) = x2 at *
  generalize wd d (p + 1) = v1 at *
  generalize wd d p = v2 at *
  refine ⟨?_, ?_, ?_, ?_, by omega, h1, hv2, hX, hx2⟩
  · rw [eX]; exact low_lt hlo
  · omega
  · omega
  · rw [ed]; exact Nat.le_of_lt (low_lt hld)

theorem Es_t0 {top v1 q r : Nat} (e : v1 * q + r = top) (hv : 2147483648 ≤ v1) (ht : top ≤ v1 * 4294967296 + 4294967295) : q ≤ 4294967297 := by
  rcases Nat.lt_or_ge 4294967297 q with h3 | h3
  · have h4 : v1 * 4294967298 ≤ v1 * q := Nat.mul_le_mul_left _ h3
    omega
  · exact h3
/-- the estimate's state -/
def Es (X d top v1 t r : Nat) : Prop := t * v1 + r = top ∧ X < (t + 1) * d
theorem Es_start {X d top u2 v1 v2 P : Nat} (E : Est X d top u2 v1 v2 P) : Es X d top v1 (top / v1) (top % v1) ∧ top / v1 ≤ 4294967297 ∧ top % v1 < v1 := by
  have hv := E.v1
  have e := Nat.div_add_mod top v1
  refine ⟨⟨by rw [Nat.mul_comm]; exact e, ?_⟩, ?_, Nat.mod_lt _ (by omega)⟩
  · refine est_start (P := 4294967296 * P) ?_ ?_ (by omega)
    · have := E.hi
      have h2 : (top * 4294967296 + u2 + 1) * P ≤ ((top + 1) * 4294967296) * P := Nat.mul_le_mul_right _ (by have := E.u2; omega)
      rw [← Nat.mul_assoc]
      omega
    · have := E.dlo
      rw [Nat.add_mul] at this
      rw [← Nat.mul_assoc]; omega
  · have ht := E.top
    have hm := Nat.mod_lt top (show v1 > 0 by omega)
    exact Es_t0 e hv ht
theorem Es_dec {X d top u2 v1 v2 P t r : Nat} (E : Est X d top u2 v1 v2 P) (h : Es X d top v1 t r) (hc : 4294967295 < t ∨ r * 4294967296 + u2 < t * v2) : 1 ≤ t ∧ Es X d top v1 (t - 1) (r + v1) := by
  have ht : 1 ≤ t := by
    rcases Nat.eq_zero_or_pos t with h0 | h0
    · subst h0; simp at hc
    · exact h0
  have h1 : X < t * d := by
    rcases hc with hc | hc
    · have h2 := E.XW
      have : 4294967296 * d ≤ t * d := Nat.mul_le_mul_right _ (by omega)
      omega
    · exact est_dec E.hi E.dlo h.1 hc
  obtain ⟨s, rfl⟩ : ∃ s, t = s + 1 := ⟨t - 1, by omega⟩
  refine ⟨ht, ?_, by rw [Nat.add_sub_cancel]; exact h1⟩
  have h3 := h.1
  rw [Nat.add_sub_cancel]
  rw [Nat.add_mul, Nat.one_mul] at h3; omega
/-- a digit as it leaves the estimate -/
def Dg (X d t : Nat) : Prop := t ≤ 4294967295 ∧ X < (t + 1) * d ∧ (t - 1) * d ≤ X
theorem Es_end {X d top u2 v1 v2 P t r : Nat} (E : Est X d top u2 v1 v2 P) (h : Es X d top v1 t r) (ht : t ≤ 4294967295) (hc : t * v2 ≤ r * 4294967296 + u2) : Dg X d t :=
  ⟨ht, h.2, est_end E.lo E.dhi h.1 ht (by have := E.v1; omega) hc⟩
theorem Es_brk {X d top u2 v1 v2 P t r : Nat} (E : Est X d top u2 v1 v2 P) (h : Es X d top v1 t r) (hb : 4294967296 ≤ r) : Dg X d t := by
  obtain ⟨h1, h2⟩ := est_brk (u2 := u2) h.1 E.top (by have := E.v1; omega) E.v2 hb
  exact Es_end E h h1 h2
theorem Es_t {X d top v1 t r : Nat} (h : Es X d top v1 t r) (hv : 2147483648 ≤ v1) (ht : top ≤ v1 * 4294967296 + 4294967295) : t ≤ 4294967297 :=
  Es_t0 (by have := h.1; rw [Nat.mul_comm]; exact this) hv ht

def tq (top v1 : Nat) : Nat := top / v1
def tr (top v1 : Nat) : Nat := top % v1
def tv (t v2 : Nat) : Nat := t * v2
def rw2 (r u2 : Nat) : Nat := r * 4294967296 + u2
theorem tv_le {t v2 : Nat} (ht : t ≤ 4294967295) (hv : v2 < 4294967296) : tv t v2 ≤ 18446744065119617025 := Nat.mul_le_mul ht (show v2 ≤ 4294967295 by omega)
end Go.Proofs.YtbgggepdlkbpoaaGreatDoor
