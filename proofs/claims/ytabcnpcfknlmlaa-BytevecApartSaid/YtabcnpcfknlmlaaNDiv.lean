/- Walks: Div, Divisor, Gcd of nat. -/
import Derived.Test.YtabcnpcfknlmlaaNatY
import Derived.OwnWalk
namespace Go.Proofs.Ytabcnpcfknlmlaa
open Go.RowKit

/-- an answer of Div: a quotient, what is left, an error's number -/
def RetD (w : World) (r : Nat × Nat × Int) (e : Ending) (w' : World) : Prop :=
  ∃ A1 c1 A2 c2, e = .returned (.tuple #[.slice A1 (digs r.1).length c1, .slice A2 (digs r.2.1).length c2, .int .i64 r.2.2]) ∧
    OW w' w.heap.size A1 c1 (digs r.1) ∧ OW w' w.heap.size A2 c2 (digs r.2.1) ∧ Below w.heap.size w w'
theorem retD_nil {w w' : World} (k : Int) (hb : Below w.heap.size w w') : RetD w (0, 0, k) (.returned (.tuple #[.slice none 0 0, .slice none 0 0, .int .i64 k])) w' :=
  ⟨none, 0, none, 0, by rw [digs_zero]; rfl, by rw [digs_zero]; exact OW.nil _ _, by rw [digs_zero]; exact OW.nil _ _, hb⟩
theorem nrm_pos {l : List Nat} (hn : Nrm l) (hb : B32 l) (h : 0 < l.length) : val l ≠ 0 := by
  intro h0
  have := digs_val hb hn
  rw [h0, digs_zero] at this
  rw [← this] at h; simp at h
def divA (a b : List Nat) : Nat × Nat × Int := if chk2 a b then (if b.length = 0 then (0, 0, 3) else (val a / val b, val a % val b, 0)) else (0, 0, 2)
theorem gcd_step (x y : Nat) : Nat.gcd y (x % y) = Nat.gcd x y := by
  rw [Nat.gcd_comm y, ← Nat.gcd_rec, Nat.gcd_comm]
set_option maxHeartbeats 1000000 in
theorem divisor_any (A D : Option Addr) (c d n m : Nat) (a b : List Nat) (w : World) (hn : n = a.length) (hm : m = b.length) (ha : RW w w.heap.size A c a) (hb : RW w w.heap.size D d b) (na : Nrm a) (nb : Nrm b)
    (hla : a.length ≤ 8796093022208) (hlb : b.length ≤ 8796093022208) :
    Calls Try.prog 81 #[.slice A n c, .slice D m d] w (RetW w (Nat.gcd (val a) (val b))) := by
  subst hn hm
  have HA := Lib.hid ha
  have HB := Lib.hid hb
  clear ha hb
  go_enter Try.func81, Try.ntmps81
  go_wp2_with fail
  go_loopg [0, 1] (val b) (fun g av bv wr => ∃ (Aa Da : Option Addr) (ca da : Nat) (la lb : List Nat), val lb = g ∧ av = .slice Aa la.length ca ∧ bv = .slice Da lb.length da ∧ RW wr wr.heap.size Aa ca la ∧ RW wr wr.heap.size Da da lb ∧
      Hid (Nrm la) ∧ Hid (Nrm lb) ∧ la.length ≤ 8796093022208 ∧ lb.length ≤ 8796093022208 ∧ Hid (Nat.gcd (val la) (val lb) = Nat.gcd (val a) (val b)) ∧ Below w.heap.size w wr)
  case atStart => exact ⟨A, D, c, d, a, b, rfl, rfl, rfl, HA.out, HB.out, na, nb, hla, hlb, rfl, Below.refl _ _⟩
  case round =>
    obtain ⟨Aa, Da, ca, da, la, lb, rfl, rfl, rfl, ra, rb, nla, nlb, ll1, ll2, hg, B⟩ := hrel
    by_cases h0 : 0 < lb.length
    · have hv := nrm_pos nlb.out rb.b32 h0
      have hov := over_any Aa Da ca da _ _ la lb wr rfl rfl ra rb nla.out nlb.out hv ll1
      have hlt : val la % val lb < val lb := Nat.mod_lt _ (by omega)
      have hl3 : (digs (val la % val lb)).length ≤ lb.length := digs_len_le.2 (Nat.lt_trans hlt (val_lt rb.b32))
      have hg2 : Hid (Nat.gcd (val lb) (val (digs (val la % val lb))) = Nat.gcd (val a) (val b)) := by show _ = _; rw [val_digs, gcd_step]; exact hg.out
      have HLT := Lib.hid hlt
      clear hlt
      go_wp2_with fail
      refine hov.mono ?_; rintro e w2 ⟨A1, c1, A2, c2, rfl, O1, O2, B2⟩
      go_wp2_with fail
      go_roundg (val (digs (val la % val lb)))
      case measure => rw [val_digs]; exact HLT.out
      case rel => exact ⟨Da, A2, da, c2, lb, _, rfl, rfl, rfl, rb.step B2 B2.size, O2.rw, nlb, Nrm_digs _, ll2, by omega, hg2, B.trans (B2.mono B.size)⟩
    · have hl0 : lb = [] := List.eq_nil_of_length_eq_zero (by omega)
      subst hl0
      have hcl := clone_any Aa ca la.length la wr rfl ra
      have hfin : Nat.gcd (val a) (val b) = val la := by rw [← hg.out, show val ([] : List Nat) = 0 from rfl, Nat.gcd_zero_right]
      have hda : la = digs (val la) := (digs_val ra.b32 nla.out).symm
      have HF := Lib.hid hfin
      have HD := Lib.hid hda
      clear hfin hda
      go_wp2_with fail
      refine hcl.mono ?_; rintro e w2 ⟨A2, c2, rfl, O2, B2⟩
      go_wp2_with fail
      go_ret
      rw [HF.out]
      rw [HD.out] at O2
      exact ⟨A2, c2, by rw [← HD.out]; rfl, O2.base_le B.size, B.trans (B2.mono B.size)⟩

def gcdA (a b : List Nat) : Nat × Int := if chk2 a b then (Nat.gcd (val a) (val b), 0) else (0, 2)
end Go.Proofs.Ytabcnpcfknlmlaa
