/- Walks: short (a number over one word). -/
import Derived.Test.YtabcnpcfknlmlaaNatN
import Derived.Test.YtabcnpcfknlmlaaPlainC
namespace Go.Proofs.Ytabcnpcfknlmlaa
open Go.RowKit

def sdiv (r x d : Nat) : Nat := (r * 4294967296 + x) / d
def smod (r x d : Nat) : Nat := (r * 4294967296 + x) % d
def scat (r x : Nat) : Nat := r * 4294967296 + x
theorem scat_or {r x : Nat} (hr : r < 4294967296) (hx : x < 4294967296) : bits .or .u64 ((r : Int) * 4294967296) (x : Int) = (scat r x : Int) := by
  have h : ((r : Int) * 4294967296) = ((r * 4294967296 : Nat) : Int) := by omega
  rw [h, u64_or_nat _ _ (by omega) (by omega), Nat.or_comm, or_hi hx, Nat.add_comm]; rfl
theorem scat_lt {r x : Nat} (hr : r < 4294967296) (hx : x < 4294967296) : scat r x ≤ 18446744073709551615 := by unfold scat; omega
theorem scat_div (r x d : Nat) : (scat r x : Int) / (d : Int) = (sdiv r x d : Int) := by unfold scat sdiv; simp
theorem scat_mod (r x d : Nat) : (scat r x : Int) % (d : Int) = (smod r x d : Int) := by unfold scat smod; simp

def RetW2 (w : World) (N r : Nat) (e : Ending) (w' : World) : Prop :=
  ∃ A' c', e = .returned (.tuple #[.slice A' (digs N).length c', .int .u32 (r : Int)]) ∧ OW w' w.heap.size A' c' (digs N) ∧ Below w.heap.size w w'

set_option maxHeartbeats 1000000 in
theorem short_any (A : Option Addr) (c n : Nat) (a : List Nat) (d : Nat) (w : World) (hd : 0 < d) (hd2 : d < 4294967296) (hn : n = a.length) (ha : RW w w.heap.size A c a) :
    Calls Try.prog 88 #[.slice A n c, .int .u32 (d : Int)] w (RetW2 w (val a / d) (val a % d)) := by
  subst hn
  have ba := ha.b32
  have hla := ha.big
  go_enter Try.func88, Try.ntmps88
  go_wp2_with (at_make; refine wp_makeW _ rfl _ _ rfl .i64 .i64 _ _ a.length rfl rfl (by omega) (by omega) (by omega) ?_; intro w1 hO1 hb1 hs1)
  go_loopw [7, 8] (fun rv iv wr => ∃ (k r : Nat) (o : List Nat), k ≤ a.length ∧ iv = .int .i64 ((k : Int) - 1) ∧ r < d ∧ rv = .int .u64 (r : Int) ∧ OW wr w.heap.size (some ⟨w.heap.size, 0, none⟩) a.length o ∧ Hid (o.length = a.length) ∧
      Hid (val (a.drop k) = val (o.drop k) * d + r) ∧ Below w.heap.size w wr) (fun _ iv _ => (intOf iv + 1).toNat)
  case atStart => exact ⟨a.length, 0, _, Nat.le_refl _, rfl, hd, rfl, hO1, by show _ = _; simp, by show _ = _; rw [List.drop_length, List.drop_of_length_le (by simp)]; simp [val], hb1⟩
  case round =>
    obtain ⟨k, r, o, hk, rfl, hr, rfl, hO, hol, hinv, hbel⟩ := hrel
    have ha1 := ha.below hbel
    by_cases h0 : 0 < k
    · obtain ⟨b1, o1, rfl, hlt1, hx⟩ := ha1.at_ (by omega)
      obtain ⟨j, rfl⟩ : ∃ j, k = j+1 := ⟨k-1, by omega⟩
      have hxk := hx j (by omega)
      have hwx := wd_lt ba j
      have hr2 : r < 4294967296 := by omega
      have hok : j < o.length := by have := hol.out; omega
      have hoc := hO.cell hok
      have hfz := hO.frozen j
      have e1 := scat_or hr2 hwx
      have hsl := scat_lt hr2 hwx
      have e2 := scat_div r (wd a j) d
      have e3 := scat_mod r (wd a j) d
      have hq : sdiv r (wd a j) d < 4294967296 := short_lt hd hr hwx
      have hrm : smod r (wd a j) d < d := Nat.mod_lt _ hd
      have hset := hO.set j hq
      have hst : Hid (val (a.drop j) = val ((o.set j (sdiv r (wd a j) d)).drop j) * d + smod r (wd a j) d) := short_step hd (by omega) hol.out hinv.out
      have hbel2 := hbel.setCell (p := ⟨w.heap.size, j, none⟩) (Nat.le_refl _) (.int .u32 (sdiv r (wd a j) d : Nat))
      clear hx ha ha1
      go_wp2
      go_roundw
      case rel => exact ⟨j, _, _, by omega, by go_num, hrm, rfl, hset, by show _ = _; rw [List.length_set]; exact hol.out, hst, hbel2⟩
      case measure => simp [intOf]
    · obtain rfl : k = 0 := by omega
      have hfin := hinv.out
      rw [List.drop_zero, List.drop_zero] at hfin
      have hf1 := Lib.hid (short_end hd hr hfin).1
      have hf2 := Lib.hid (short_end hd hr hfin).2
      clear hfin
      have hO2 := hO.rw
      go_wp2_with (go_at_call 57; refine (norm_any _ _ _ o _ hol.out.symm hO2).mono ?_; rintro e w' ⟨rfl, rfl⟩)
      go_ret2
      have hn := hO.norm
      rw [hf1.out] at hn ⊢
      rw [← hf2.out]
      exact ⟨_, _, rfl, hn, hbel⟩
end Go.Proofs.Ytabcnpcfknlmlaa
