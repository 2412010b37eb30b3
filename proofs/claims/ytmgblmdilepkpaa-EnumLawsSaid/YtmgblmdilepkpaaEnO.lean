/- Walk: same of the law (NOT BUILT: its region draws its order; see NOTES). -/
import Derived.Test.YtmgblmdilepkpaaEnL
import Derived.Deep.RegionHeld3
namespace Go.Proofs.Ytmgblmdilepkpaa
open Go.RowKit

/-- what the region of same keeps -/
def SX (w : World) (b0 : Nat) (v0 v1 v2 v3 : Value) (w' : World) : Prop := SC w' b0 v0 v1 ∧ SC w' (b0 + 1) v2 v3 ∧ Below b0 w w'
theorem SX.nx {w : World} {b0 : Nat} {v0 v1 v2 v3 : Value} {w1 w2 : World} (h : SX w b0 v0 v1 v2 v3 w1) (hb : Below w1.heap.size w1 w2) : SX w b0 v0 v1 v2 v3 w2 :=
  ⟨h.1.nx hb, h.2.1.nx hb, h.2.2.trans (hb.mono (Nat.le_of_lt h.1.2.2.2.2))⟩
set_option maxHeartbeats 1000000 in
theorem lsame_any (A D E G : Option Addr) (c d e0 g0 n m p q : Nat) (u : List Str) (i : List Bool) (v : List Str) (j : List Bool) (w : World) (hn : n = u.length) (hm : m = i.length) (hp : p = v.length) (hq : q = j.length)
    (hl1 : i.length = u.length) (hl2 : j.length = v.length) (h64 : u.length ≤ 1000) (h1 : ks u = ks v) (h2 : msel (ks u) i = msel (ks v) j)
    (hu : RS w w.heap.size A c u) (hi : RBo w w.heap.size D d i) (hv : RS w w.heap.size E e0 v) (hj : RBo w w.heap.size G g0 j) :
    Calls Try.prog 24 #[.agg #[.slice A n c, .slice D m d], .agg #[.slice E p e0, .slice G q g0]] w fun e w' => e = .returned (.bool true) ∧ Below w.heap.size w w' := by
  subst hn hm hp hq
  have hlv : v.length = u.length := by rw [← ks_length v, ← h1, ks_length]
  have hlij : ((i.length : Int) == (j.length : Int)) = true := by rw [hl1, hl2, hlv]; simp
  have B1 := bal w (.cells #[.slice A u.length c, .slice D i.length d] 25)
  have B2 := bal (w.alloc (.cells #[.slice A u.length c, .slice D i.length d] 25)) (.cells #[.slice E v.length e0, .slice G j.length g0] 25)
  have sa := SC.new w (.slice A u.length c) (.slice D i.length d) 25
  have sb := SC.new (w.alloc (.cells #[.slice A u.length c, .slice D i.length d] 25)) (.slice E v.length e0) (.slice G j.length g0) 25
  have z1 : (w.alloc (.cells #[.slice A u.length c, .slice D i.length d] 25)).heap.size = w.heap.size + 1 := by simp
  rw [z1] at sb
  have sa2 := sa.nx B2
  have C2 := bt B1 B2
  have m1 := sa2.1
  have m2 := sa2.2.1
  have m3 := sb.1
  have m4 := sb.2.1
  have hs1 := fun w' x y => same_b A E c e0 _ _ u v w' rfl rfl h1 x y
  have hma := fun w' x y => members_any A D c d _ _ u i w' rfl rfl hl1 h64 x y
  have hmb := fun w' x y => members_any E G e0 g0 _ _ v j w' rfl rfl hl2 (by omega) x y
  have hs2 := fun A4 c4 A5 c5 w' x y => same_b A4 A5 c4 c5 _ _ (msel u i) (msel v j) w' rfl rfl (by rw [ks_msel, ks_msel]; exact h2) x y
  clear hl1 hl2 hlv h1 h2
  go_enter Try.func24, Try.ntmps24
  have HN1 := Lib.hid sa2
  have HN2 := Lib.hid sb
  have n0 : w.heap.size < ((w.alloc (.cells #[.slice A u.length c, .slice D i.length d] 25)).alloc (.cells #[.slice E v.length e0, .slice G j.length g0] 25)).heap.size := sa2.2.2.2.2
  go_wp2_with fail
  have hS0 : SX w w.heap.size (.slice A u.length c) (.slice D i.length d) (.slice E v.length e0) (.slice G j.length g0) ((w.alloc (.cells #[.slice A u.length c, .slice D i.length d] 25)).alloc (.cells #[.slice E v.length e0, .slice G j.length g0] 25)) := ⟨sa2, sb, C2⟩
  have hS1 := And.intro (sa2.drewN 1).1 (And.intro (sa2.drewN 1).2.1 (And.intro (sb.drewN 1).1 (And.intro (sb.drewN 1).2.1 (show SX w w.heap.size (.slice A u.length c) (.slice D i.length d) (.slice E v.length e0) (.slice G j.length g0) ((w.alloc (.cells #[.slice A u.length c, .slice D i.length d] 25)).alloc (.cells #[.slice E v.length e0, .slice G j.length g0] 25)).drew from ⟨sa2.drewN 1, sb.drewN 1, bdN C2 1⟩))))
  go_region_held3 (fun w' => w'.cell? ⟨w.heap.size, 0, none⟩ = some (.slice A u.length c) ∧ w'.cell? ⟨w.heap.size, 1, none⟩ = some (.slice D i.length d) ∧ w'.cell? ⟨w.heap.size + 1, 0, none⟩ = some (.slice E v.length e0) ∧ w'.cell? ⟨w.heap.size + 1, 1, none⟩ = some (.slice G j.length g0) ∧ SX w w.heap.size (.slice A u.length c) (.slice D i.length d) (.slice E v.length e0) (.slice G j.length g0) w')
    (first
      | exact hS1
      | (have s1 := (by assumption : _ ∧ _ ∧ _ ∧ _ ∧ SX w w.heap.size (.slice A u.length c) (.slice D i.length d) (.slice E v.length e0) (.slice G j.length g0) _).2.2.2.2.nx BX; exact ⟨s1.1.1, s1.1.2.1, s1.2.1.1, s1.2.1.2.1, s1⟩))
    (first
      | (go_at_call_of 17 (Value.slice D i.length d); have hh := (by assumption : _ ∧ _ ∧ _ ∧ _ ∧ SX w w.heap.size (.slice A u.length c) (.slice D i.length d) (.slice E v.length e0) (.slice G j.length g0) _).2.2.2.2; refine (hma _ (st hu hh.2.2) (st hi hh.2.2)).mono ?_; rintro e w4 ⟨A4, c4, rfl, O4, BX⟩)
      | (go_at_call_of 17 (Value.slice G j.length g0); have hh := (by assumption : _ ∧ _ ∧ _ ∧ _ ∧ SX w w.heap.size (.slice A u.length c) (.slice D i.length d) (.slice E v.length e0) (.slice G j.length g0) _).2.2.2.2; refine (hmb _ (st hv hh.2.2) (st hj hh.2.2)).mono ?_; rintro e w5 ⟨A5, c5, rfl, O5, BX⟩)
      | (go_at_call_of 16 (Value.slice A u.length c); have hh := (by assumption : _ ∧ _ ∧ _ ∧ _ ∧ SX w w.heap.size (.slice A u.length c) (.slice D i.length d) (.slice E v.length e0) (.slice G j.length g0) _).2.2.2.2; refine (hs1 _ (st hu hh.2.2) (st hv hh.2.2)).mono ?_; rintro e w3 ⟨rfl, BX⟩)
      | (go_at_call 16; refine (hs2 A4 c4 A5 c5 _ (by first | exact st O4.rl BX | exact O4.rl) (by first | exact O5.rl | exact st O5.rl BX)).mono ?_; rintro e w6 ⟨rfl, BX⟩))
  have hh := (by assumption : _ ∧ _ ∧ _ ∧ _ ∧ SX w w.heap.size (.slice A u.length c) (.slice D i.length d) (.slice E v.length e0) (.slice G j.length g0) w6).2.2.2.2.2.2
  go_wp2_with fail
  go_ret
  exact ⟨rfl, hh⟩
end Go.Proofs.Ytmgblmdilepkpaa
