/- Slices of bytes: reading, owning, append; as a text. -/
import Derived.Test.YtabcnpcfknlmlaaProg
import Derived.Test.YtabcnpcfknlmlaaMemT
namespace Go.Proofs.Ytabcnpcfknlmlaa
open Go.RowKit

/-- a byte's cell -/
def f8 (x : UInt8) : Value := .int .u8 (x.toNat : Int)
def RB (w : World) (B : Nat) (A : Option Addr) (c : Nat) (l : List UInt8) : Prop := RM f8 w B A c l
def OB (w : World) (base : Nat) (A : Option Addr) (c : Nat) (l : List UInt8) : Prop := OM 5 f8 w base A c l
theorem infoB : (Try.prog.info? 5).map (fun i => (i.zero, i.size, i.bytes)) = some (some (f8 0), 1, 1) := by kernel_rfl
theorem b_get? {l : List UInt8} {k : Nat} (h : k < l.length) : l[k]? = some (l.getD k 0) := by rw [List.getElem?_eq_getElem h, List.getD_eq_getElem?_getD, List.getElem?_eq_getElem h]; rfl

theorem wp_appB (w : World) {ops : Array Oper} {rest : List Oper} {o : Oper} {a : Act} {Q : Exit → Act → World → Prop}
    (hg : o.guard = none) (s x : Operand) (hop : o.op = Op.call { callee := Callee.builtin Builtin.append, args := #[s, x], argTypes := #[22, 22] })
    (base : Nat) (A : Option Addr) (c n : Nat) (l : List UInt8) (hs : a.eval s = .slice A n c) (hn : n = l.length) (hown : OB w base A c l)
    (D : Option Addr) (d m : Nat) (r : List UInt8) (hx : a.eval x = .slice D m d) (hm : m = r.length) (Br : Nat) (hr : RB w Br D d r)
    (hlen : l.length + r.length ≤ 140737488351232) (hbase : base ≤ w.heap.size)
    (hK : ∀ A' c' w', OB w' base A' c' (l ++ r) → w.grownBy w' (Value.slice A n c).ownBlock → Below base w w' → wpList Try.prog ops Q rest (a.put o.dst (.slice A' (l ++ r).length c')) w') :
    wpList Try.prog ops Q (o :: rest) a w :=
  wp_appT w 22 5 f8 0 1 Try.underlying22 infoB (fun _ => ⟨rfl, rfl⟩) hg s x hop base A c n l hs hn hown D d m r hx hm Br hr hlen (by omega) hbase
    fun A' c' w' h1 h2 _ => hK A' c' w' h1 h2 ((Below.refl _ _).grown h2 hbase (by
      intro k hk
      rcases OM.form hown with ⟨rfl, _⟩ | ⟨g, rfl, hb, _⟩
      · simp [Value.ownBlock] at hk
      · simp [Value.ownBlock] at hk; omega))
/-- one byte in a new block, as append's source -/
theorem RB.one (w : World) (t : TypeId) (x : UInt8) : RB (w.alloc (.cells #[.int .u8 (x.toNat : Int)] t)) (w.heap.size + 1) (some ⟨w.heap.size, 0, none⟩) 1 [x] := by
  refine ⟨by simp, by simp, fun _ => ⟨_, _, rfl, by omega, fun k y hk => ?_⟩⟩
  match k, hk with
  | 0, hk => simp at hk; subst hk; have := cell_one_new w (.int .u8 (x.toNat : Int)) t 0 _ rfl; rwa [Addr.add_lit] at this
theorem OB.empty (w : World) : OB (w.alloc (.cells #[] 5)) w.heap.size (some ⟨w.heap.size, 0, none⟩) 0 [] := by
  refine ⟨?_, by simp⟩
  have h := World.ownsRow_lit (e := 5) (size := 1) w #[] 0 (Nat.le_refl _) (by unfold maxLen; omega) (by simp)
  simpa using h
/-- string(b) -/
theorem conv_bytes {w : World} {B : Nat} {A : Option Addr} {c : Nat} {l : List UInt8} (h : RB w B A c l) (hA : ∃ b off, A = some ⟨b, off, none⟩) :
    (convert 22 9 (.slice A l.length c)).run Try.prog w = .ok (.string ⟨l.toArray⟩) w := by
  obtain ⟨b, off, rfl⟩ := hA
  refine run_convert_bytes_back w 22 9 5 ⟨b, off, none⟩ c l Try.underlying22 Try.underlying5 Try.underlying9 fun j hj => ?_
  obtain ⟨b', off', e, _, hc⟩ := h.at_ (by omega)
  simp only [Option.some.injEq, Addr.mk.injEq, and_true] at e
  obtain ⟨rfl, rfl⟩ := e
  rw [Addr.add_lit]
  exact hc j _ (List.getElem?_eq_getElem hj)

/-- how long a slice is -/
def slen : Value → Nat | .slice _ n _ => n | _ => 0

def bg (l : List UInt8) (k : Nat) : UInt8 := l.getD k 0
theorem bg_get? {l : List UInt8} {k : Nat} (h : k < l.length) : l[k]? = some (bg l k) := b_get? h
theorem bg_set_eq {l : List UInt8} {k : Nat} (x : UInt8) (h : k < l.length) : bg (l.set k x) k = x := by
  unfold bg; simp [List.getD_eq_getElem?_getD, h]
theorem bg_set_ne {l : List UInt8} {k j : Nat} (x : UInt8) (h : k ≠ j) : bg (l.set k x) j = bg l j := by
  unfold bg; simp [List.getD_eq_getElem?_getD, h]
theorem bg_ext {a b : List UInt8} (hl : a.length = b.length) (h : ∀ k, k < a.length → bg a k = bg b k) : a = b := by
  refine List.ext_getElem? fun k => ?_
  by_cases hk : k < a.length
  · rw [bg_get? hk, bg_get? (by omega), h k hk]
  · rw [List.getElem?_eq_none (by omega), List.getElem?_eq_none (by omega)]
theorem bg_rev {l : List UInt8} {k : Nat} (h : k < l.length) : bg l.reverse k = bg l (l.length - 1 - k) := by
  have h1 := bg_get? (l := l.reverse) (k := k) (by rw [List.length_reverse]; exact h)
  rw [List.getElem?_reverse h, bg_get? (by omega)] at h1
  exact (Option.some.inj h1).symm
/-- turned round as far as k places from both ends -/
def Rvd (o l : List UInt8) (k : Nat) : Prop :=
  l.length = o.length ∧ ∀ t, t < o.length → bg l t = if t < k ∨ o.length ≤ t + k then bg o (o.length - 1 - t) else bg o t
theorem Rvd_step {o l : List UInt8} {k j : Nat} (h : Rvd o l k) (hj : j = o.length - 1 - k) (hk : k < j) : Rvd o ((l.set k (bg l j)).set j (bg l k)) (k + 1) := by
  refine ⟨by rw [List.length_set, List.length_set]; exact h.1, fun t ht => ?_⟩
  have hl := h.1
  by_cases h1 : j = t
  · subst h1
    rw [bg_set_eq _ (by rw [List.length_set]; omega), h.2 k (by omega), if_neg (by omega), if_pos (by omega)]
    congr 1; omega
  · rw [bg_set_ne _ h1]
    by_cases h2 : k = t
    · subst h2
      rw [bg_set_eq _ (by omega), h.2 j (by omega), if_neg (by omega), if_pos (by omega)]
      congr 1
    · rw [bg_set_ne _ h2, h.2 t ht]
      by_cases h3 : t < k ∨ o.length ≤ t + k
      · rw [if_pos h3, if_pos (by omega)]
      · rw [if_neg h3, if_neg (by omega)]
theorem Rvd_end {o l : List UInt8} {k : Nat} (h : Rvd o l k) (hk : ¬ ((k : Int) < (o.length : Int) - 1 - k)) : l = o.reverse := by
  refine bg_ext (by rw [List.length_reverse]; exact h.1) fun t ht => ?_
  have hl := h.1
  rw [bg_rev (by omega), h.2 t (by omega)]
  split
  · rfl
  · congr 1; omega
set_option maxHeartbeats 1000000 in
theorem reverse_any (A : Option Addr) (c n : Nat) (o : List UInt8) (w : World) (base : Nat) (hn : n = o.length) (h : OB w base A c o) :
    Calls Try.prog 26 #[.slice A n c] w fun e w' => e = .returned (.tuple #[]) ∧ OB w' base A c o.reverse ∧ Below base w w' := by
  subst hn
  have hbig := OM.big h
  go_enter Try.func26, Try.ntmps26
  go_wp2
  go_loopw [2, 3] (fun iv jv wr => ∃ (k : Nat) (l : List UInt8), iv = .int .i64 (k : Int) ∧ jv = .int .i64 ((o.length : Int) - 1 - k) ∧ k ≤ o.length ∧ OB wr base A c l ∧ Hid (Rvd o l k) ∧ Below base w wr) (fun iv _ _ => (o.length - intOf iv).toNat)
  case atStart => exact ⟨0, o, rfl, by simp, Nat.zero_le _, h, ⟨rfl, fun t ht => by rw [if_neg (by omega)]⟩, Below.refl _ _⟩
  case round =>
    obtain ⟨k, l, rfl, rfl, hk, hO, hR, hbel⟩ := hrel
    by_cases h0 : (k : Int) < (o.length : Int) - 1 - k
    · have hl := hR.out.1
      have HL := Lib.hid hl
      rcases OM.form hO with ⟨_, _, he⟩ | ⟨g, rfl, hg1, hg2, _⟩
      · rw [he] at hl; simp at hl; omega
      · obtain ⟨j, hj⟩ : ∃ j, j = o.length - 1 - k := ⟨_, rfl⟩
        have e0 : (o.length : Int) - 1 - (k : Int) = (j : Int) := by omega
        have hkj : k < j := by omega
        have hjl : j < o.length := by omega
        have hck := OM.cell hO (bg_get? (l := l) (k := k) (by omega))
        have hcj := OM.cell hO (bg_get? (l := l) (k := j) (by omega))
        have hfk := OM.frozen hO k
        have hfj := OM.frozen hO j
        have hst := Lib.hid (Rvd_step hR.out hj hkj)
        have hset := OM.set (OM.set hO k (bg l j)) j (bg l k)
        have hbel2 := (hbel.setCell (p := ⟨g, k, none⟩) hg1 (f8 (bg l j))).setCell (p := ⟨g, j, none⟩) hg1 (f8 (bg l k))
        have HJ := Lib.hid hj
        have E0 := Lib.hid e0
        clear hl hj
        simp only [f8] at hck hcj
        go_wp2
        go_region
        go_wp2
        go_roundw
        case rel => exact ⟨k + 1, _, by go_num, by go_num, by omega, hset, hst, Below.drew hbel2⟩
        case measure => simp [intOf]; omega
    · have hfin := Lib.hid (Rvd_end hR.out h0)
      go_wp2
      go_end0
      refine ⟨rfl, ?_, hbel⟩
      rw [← hfin.out]; exact hO
end Go.Proofs.Ytabcnpcfknlmlaa
