/- Merged texts: ExV, BiY, BjD. -/
import Derived.Test.YtnlgoedklmjhlaaGH
import Derived.Test.YtnlgoedklmjhlaaGF
import Derived.Test.YtnlgoedklmjhlaaGK
import Derived.Test.YtnlgoedklmjhlaaGM
import Derived.Test.YtnlgoedklmjhlaaHN
namespace Go.Proofs.Ytnlgoedklmjhlaa
open Go.RowKit

theorem fitQ_inv {p q : Rat} {a b : Rw} (h : fitQ p q = (a, b, 0)) : a = rwq p ∧ b = rwq q ∧ qw p ≤ 512 ∧ qw q ≤ 512 := by
  unfold fitQ at h
  split at h
  · next hq =>
    simp only [Prod.mk.injEq] at h
    exact ⟨h.1.symm, h.2.1.symm, hq.1, hq.2⟩
  · simp at h
section
variable {x y u v : Rat} (hx : qw x ≤ 512) (hy : qw y ≤ 512) (hu : qw u ≤ 512) (hv : qw v ≤ 512)
include hx hy hu hv
theorem qaddA_q : qaddA (rwq x) (rwq y) (rwq u) (rwq v) = fitQ (x + u) (y + v) := by
  unfold qaddA; rw [if_pos ⟨nB_rwq hx hy, nB_rwq hu hv⟩, qv_rwq, qv_rwq, qv_rwq, qv_rwq]
theorem qsubA_q : qsubA (rwq x) (rwq y) (rwq u) (rwq v) = fitQ (x + -u) (y + -v) := by
  unfold qsubA; rw [if_pos ⟨nB_rwq hx hy, nB_rwq hu hv⟩, qv_rwq, qv_rwq, qv_rwq, qv_rwq]
theorem qmulA_q : qmulA (rwq x) (rwq y) (rwq u) (rwq v) = fitQ (x * u + -(y * v)) (x * v + y * u) := by
  unfold qmulA; rw [if_pos ⟨nB_rwq hx hy, nB_rwq hu hv⟩, qv_rwq, qv_rwq, qv_rwq, qv_rwq]
theorem qdivA_q : qdivA (rwq x) (rwq y) (rwq u) (rwq v) = if u = 0 ∧ v = 0 then (rw0, rw0, 3) else divQ x y u v := by
  unfold qdivA; rw [if_pos ⟨nB_rwq hx hy, nB_rwq hu hv⟩, qv_rwq, qv_rwq, qv_rwq, qv_rwq]
theorem sameB_q : sameB (rwq x) (rwq y) (rwq u) (rwq v) = decide (x = u ∧ y = v) := by
  unfold sameB
  rw [nB_rwq hx hy, nB_rwq hu hv, Bool.true_and, Bool.true_and, Bool.decide_and]
  unfold rwq
  rw [fsB_q, fsB_q]
end
theorem qw0 : qw (0 : Rat) ≤ 512 := by decide_cbv
/-- the field's laws at what was answered without an error -/
theorem field_plain {x y u v p q : Rat} (hx : qw x ≤ 512) (hy : qw y ≤ 512) (hu : qw u ≤ 512) (hv : qw v ≤ 512) (hp : qw p ≤ 512) (hq : qw q ≤ 512)
    {sr si lr li xr xi yr yi rr ri : Rw} (h1 : qaddA (rwq u) (rwq v) (rwq p) (rwq q) = (sr, si, 0)) (h2 : qmulA (rwq x) (rwq y) sr si = (lr, li, 0))
    (h3 : qmulA (rwq u) (rwq v) (rwq x) (rwq y) = (xr, xi, 0)) (h4 : qmulA (rwq x) (rwq y) (rwq p) (rwq q) = (yr, yi, 0)) (h5 : qaddA xr xi yr yi = (rr, ri, 0)) :
    qsubA sr si (rwq p) (rwq q) = (rwq u, rwq v, 0) ∧ sameB lr li rr ri = true ∧ sameB (rwq u) (rwq v) (rwq u) (rwq v) = true ∧
      sameB (rwq x) (rwq y) (rwq 0) (rwq 0) = decide (x = 0 ∧ y = 0) ∧ qdivA xr xi (rwq x) (rwq y) = if x = 0 ∧ y = 0 then (rw0, rw0, 3) else (rwq u, rwq v, 0) := by
  rw [qaddA_q hu hv hp hq] at h1
  obtain ⟨rfl, rfl, a1, a2⟩ := fitQ_inv h1
  rw [qmulA_q hx hy a1 a2] at h2
  obtain ⟨rfl, rfl, b1, b2⟩ := fitQ_inv h2
  rw [qmulA_q hu hv hx hy] at h3
  obtain ⟨rfl, rfl, c1, c2⟩ := fitQ_inv h3
  rw [qmulA_q hx hy hp hq] at h4
  obtain ⟨rfl, rfl, d1, d2⟩ := fitQ_inv h4
  rw [qaddA_q c1 c2 d1 d2] at h5
  obtain ⟨rfl, rfl, e1, e2⟩ := fitQ_inv h5
  refine ⟨?_, ?_, ?_, sameB_q hx hy qw0 qw0, ?_⟩
  · rw [qsubA_q a1 a2 hp hq, show u + p + -p = u by grind, show v + q + -q = v by grind]
    exact fitQ_ok hu hv
  · rw [sameB_q b1 b2 e1 e2, decide_eq_true_eq]
    constructor <;> grind
  · rw [sameB_q hu hv hu hv, decide_eq_true_eq]
    exact ⟨rfl, rfl⟩
  · rw [qdivA_q c1 c2 hx hy]
    by_cases hz : x = 0 ∧ y = 0
    · rw [if_pos hz, if_pos hz]
    · rw [if_neg hz, if_neg hz]
      have hn : ¬ (x * x + y * y = 0) := fun h0 => (norm_pos' hz).2 (qt_zero.2 h0)
      unfold divQ
      rw [show (u * x + -(v * y)) * (x * (x * x + y * y)⁻¹) + -((u * y + v * x) * (-y * (x * x + y * y)⁻¹)) = u by grind,
        show (u * x + -(v * y)) * (-y * (x * x + y * y)⁻¹) + (u * y + v * x) * (x * (x * x + y * y)⁻¹) = v by grind]
      exact fitQ_ok hu hv
end Go.Proofs.Ytnlgoedklmjhlaa
namespace Go.Proofs.Ytnlgoedklmjhlaa
open Go.RowKit

/-- a whole number of up to 512 words, so taken -/
def Z5 (X : Int) : Prop := qw ((X : Int) : Rat) ≤ 512
theorem z5_of {r i : Rw} (h : wB r i = true) : r = rwq ((iv r : Int) : Rat) ∧ i = rwq 0 ∧ Z5 (iv r) ∧ (digs (iv r).natAbs).length = r.a.length := by
  obtain ⟨x1, x2, x3⟩ := wB_rw h
  have hl := iv_len h
  refine ⟨x1, x2, ?_, hl⟩
  unfold Z5 qw
  rw [qd_int, digs_one1, qt_int]
  exact Nat.max_le.2 ⟨by omega, by simp⟩
theorem z5_w {X : Int} (h : Z5 X) : wB (rwq ((X : Int) : Rat)) (rwq 0) = true ∧ iv (rwq ((X : Int) : Rat)) = X := by
  obtain ⟨s, v, e, h0⟩ : ∃ (s : Bool) (v : Nat), X = sgn s v ∧ (v = 0 → s = false) := by
    by_cases hX : X < 0
    · exact ⟨true, X.natAbs, by rw [sgn_true]; omega, fun h => by omega⟩
    · exact ⟨false, X.natAbs, by rw [sgn_false]; omega, fun _ => rfl⟩
  subst e
  have hl : (digs v).length ≤ 512 := by
    unfold Z5 at h
    rw [qw_int] at h
    omega
  refine ⟨nB_whole s v h0 hl, ?_⟩
  rw [rwq_int s v h0]
  unfold iv
  dsimp only
  rw [val_digs]
theorem z5_fit {X : Int} {a b : Rw} (h : fitQ ((X : Int) : Rat) 0 = (a, b, 0)) : a = rwq ((X : Int) : Rat) ∧ b = rwq 0 ∧ Z5 X := by
  obtain ⟨h1, h2, h3, _⟩ := fitQ_inv h
  exact ⟨h1, h2, h3⟩
theorem fit_err {p q : Rat} {a b : Rw} {k : Int} (h : fitQ p q = (a, b, k)) (hk : k ≠ 0) : a = rw0 ∧ b = rw0 ∧ k = 4 := by
  unfold fitQ at h
  split at h
  · simp only [Prod.mk.injEq] at h
    exact absurd h.2.2.symm hk
  · simp only [Prod.mk.injEq] at h
    exact ⟨h.1.symm, h.2.1.symm, h.2.2.symm⟩
/-- an operation's number -/
theorem op_is {g : Nat → Nat → Nat} {f : Bool → Bool → Bool} (hg : bitOp g f) {X Y : Int} {r r2 : Rw} (h1 : (digs X.natAbs).length = r.a.length) (h2 : (digs Y.natAbs).length = r2.a.length) : isOp f (rowOp g (max r.a.length r2.a.length + 1) X Y) X Y :=
  rowOp_is hg (by rw [h1]; omega) (by rw [h2]; omega)
theorem op_eq {g : Nat → Nat → Nat} {f : Bool → Bool → Bool} (hg : bitOp g f) {r i r2 i2 : Rw} (h1 : wB r i = true) (h2 : wB r2 i2 = true) : ∃ Z, isOp f Z (iv r) (iv r2) ∧ qbothA g r i r2 i2 = fitQ ((Z : Int) : Rat) 0 := by
  refine ⟨_, op_is hg (iv_len h1) (iv_len h2), ?_⟩
  unfold qbothA
  rw [if_pos (bchk2_of h1 h2)]
/-- words below 512 are enough -/
theorem op_fits {f : Bool → Bool → Bool} {Z X Y : Int} (h : isOp f Z X Y) (hx : (digs X.natAbs).length < 512) (hy : (digs Y.natAbs).length < 512) : Z5 Z := by
  have key : ∀ L : Nat, (digs X.natAbs).length ≤ L → (digs Y.natAbs).length ≤ L → (digs Z.natAbs).length ≤ L + 1 := by
    intro L h1 h2
    have e1 : X.natAbs < 2 ^ (32 * L) := by rw [← Wp_eq]; exact digs_len_le.1 h1
    have e2 : Y.natAbs < 2 ^ (32 * L) := by rw [← Wp_eq]; exact digs_len_le.1 h2
    obtain ⟨z1, z2⟩ := isOp_range (32 * L) h (by omega) (by omega) (by omega) (by omega)
    refine digs_len_le.2 ?_
    have e3 : Z.natAbs ≤ Wp L := by rw [Wp_eq]; omega
    have e4 := Wp_pos L
    rw [Wp_succ]
    omega
  unfold Z5 qw
  rw [qd_int, digs_one1, qt_int]
  exact Nat.max_le.2 ⟨key 511 (by omega) (by omega), by simp⟩
theorem laws_bad {ra ia rb ib mr mi dr di sr si : Rw} {mk dk sk : Int} (em : qbothA (· &&& ·) ra ia rb ib = (mr, mi, mk)) (ed : qbothA (· ||| ·) ra ia rb ib = (dr, di, dk)) (es : qbothA (· ^^^ ·) ra ia rb ib = (sr, si, sk)) (h : ¬ (mk = 0 ∧ dk = 0 ∧ sk = 0)) :
    wB ra ia = false ∨ wB rb ib = false ∨ ra.a.length = 512 ∨ rb.a.length = 512 := by
  by_cases h1 : wB ra ia = true
  · by_cases h2 : wB rb ib = true
    · obtain ⟨_, _, z1, l1⟩ := z5_of h1
      obtain ⟨_, _, z2, l2⟩ := z5_of h2
      have la := (wB_rw h1).2.2
      have lb := (wB_rw h2).2.2
      by_cases ha : ra.a.length = 512
      · exact .inr (.inr (.inl ha))
      · by_cases hb : rb.a.length = 512
        · exact .inr (.inr (.inr hb))
        · exfalso
          apply h
          have fin : ∀ {g : Nat → Nat → Nat} {f : Bool → Bool → Bool} {r i : Rw} {k : Int}, bitOp g f → qbothA g ra ia rb ib = (r, i, k) → k = 0 := by
            intro g f r i k hg e
            obtain ⟨Z, hz, hq⟩ := op_eq hg h1 h2
            rw [hq, fitQ_ok (op_fits hz (by omega) (by omega)) (by rw [qw_zero]; omega)] at e
            simp only [Prod.mk.injEq] at e
            exact e.2.2.symm
          exact ⟨fin bitOp_and em, fin bitOp_or ed, fin bitOp_xor es⟩
    · exact .inr (.inl (by simpa using h2))
  · exact .inl (by simpa using h1)
theorem both_ok {g : Nat → Nat → Nat} {ra ia rb ib r i : Rw} (e : qbothA g ra ia rb ib = (r, i, 0)) : wB ra ia = true ∧ wB rb ib = true := by
  unfold qbothA at e
  by_cases hk : bchkN2 ra ia rb ib = 0
  · exact bchk2_zero hk
  · rw [if_neg hk] at e
    simp only [Prod.mk.injEq] at e
    exact absurd e.2.2 hk
theorem laws_good {ra ia rb ib mr mi dr di sr si : Rw} (em : qbothA (· &&& ·) ra ia rb ib = (mr, mi, 0)) (ed : qbothA (· ||| ·) ra ia rb ib = (dr, di, 0)) (es : qbothA (· ^^^ ·) ra ia rb ib = (sr, si, 0)) :
    qaddA mr mi dr di = qaddA ra ia rb ib ∧ qsubA dr di mr mi = (sr, si, 0) ∧ sameB sr si sr si = true ∧ sameB ra ia ra ia = true ∧
    (∀ lr li, qaddA ra ia rb ib = (lr, li, 0) → sameB lr li lr li = true) ∧
    (∀ nar nai nbr nbi, qnotA ra ia = (nar, nai, 0) → qnotA rb ib = (nbr, nbi, 0) → qnotA nar nai = (ra, ia, 0) ∧ qbothA (· ||| ·) nar nai nbr nbi = qnotA mr mi) ∧ (∀ r i, qnotA mr mi = (r, i, 0) → sameB r i r i = true) := by
  obtain ⟨h1, h2⟩ := both_ok em
  obtain ⟨e1, e2, z1, l1⟩ := z5_of h1
  obtain ⟨e3, e4, z2, l2⟩ := z5_of h2
  obtain ⟨A, ha, hqa⟩ := op_eq bitOp_and h1 h2
  obtain ⟨O, ho, hqo⟩ := op_eq bitOp_or h1 h2
  obtain ⟨E, hx, hqe⟩ := op_eq bitOp_xor h1 h2
  rw [hqa] at em
  rw [hqo] at ed
  rw [hqe] at es
  obtain ⟨m1, m2, zA⟩ := z5_fit em
  obtain ⟨d1, d2, zO⟩ := z5_fit ed
  obtain ⟨s1, s2, zE⟩ := z5_fit es
  generalize iv ra = X at *
  generalize iv rb = Y at *
  have q0 : qw 0 ≤ 512 := by rw [qw_zero]; omega
  have hsum := and_or_sum ha ho
  have hdif := or_and_diff ha ho hx
  have sR : ∀ {Z : Int}, Z5 Z → sameB (rwq ((Z : Int) : Rat)) (rwq 0) (rwq ((Z : Int) : Rat)) (rwq 0) = true := fun h => sameB_self (nB_rwq h q0)
  have nN : ∀ {Z : Int}, Z5 Z → qnotA (rwq ((Z : Int) : Rat)) (rwq 0) = fitQ (((-Z - 1 : Int)) : Rat) 0 := fun {Z} h => by
    obtain ⟨w1, w2⟩ := z5_w h
    unfold qnotA
    rw [if_pos (bchk1_of w1), w2]
  subst e1 e2 e3 e4 m1 m2 d1 d2 s1 s2
  refine ⟨?_, ?_, sR zE, sR z1, ?_, ?_, ?_⟩
  · rw [qaddA_q zA q0 zO q0, qaddA_q z1 q0 z2 q0, ← Rat.intCast_add, ← Rat.intCast_add, hsum]
  · rw [qsubA_q zO q0 zA q0, ← Rat.intCast_neg, ← Rat.intCast_add, show O + -A = E by omega, show (0 : Rat) + -0 = 0 by rw [Rat.neg_zero, Rat.add_zero]]
    exact fitQ_ok zE q0
  · intro lr li h
    rw [qaddA_q z1 q0 z2 q0, ← Rat.intCast_add, show (0 : Rat) + 0 = 0 from Rat.add_zero 0] at h
    obtain ⟨a1, a2, a3⟩ := z5_fit h
    rw [a1, a2]
    exact sR a3
  · intro nar nai nbr nbi ha1 hb1
    rw [nN z1] at ha1
    rw [nN z2] at hb1
    obtain ⟨a1, a2, a3⟩ := z5_fit ha1
    obtain ⟨b1, b2, b3⟩ := z5_fit hb1
    rw [a1, a2, b1, b2]
    refine ⟨?_, ?_⟩
    · rw [nN a3, show -(-X - 1) - 1 = X by omega]
      exact fitQ_ok z1 q0
    · obtain ⟨w1, v1⟩ := z5_w a3
      obtain ⟨w2, v2⟩ := z5_w b3
      obtain ⟨Z, hz, hq⟩ := op_eq bitOp_or w1 w2
      rw [v1, v2] at hz
      rw [hq, nN zA, not_exchanges ha hz]
  · intro r i h
    rw [nN zA] at h
    obtain ⟨a1, a2, a3⟩ := z5_fit h
    rw [a1, a2]
    exact sR a3
end Go.Proofs.Ytnlgoedklmjhlaa
namespace Go.Proofs.Ytnlgoedklmjhlaa
open Go.RowKit

/-- Shift's answer -/
def qshiftA (r i : Rw) (n : Int) : Rw × Rw × Int :=
  if bchkN1 r i = 0 then (if n < -16384 ∨ 16384 < n then (rw0, rw0, 1) else if 0 ≤ n then fitQ ((iv r * ((2 ^ n.toNat : Nat) : Int) : Int) : Rat) 0 else fitQ ((iv r / ((2 ^ (-n).toNat : Nat) : Int) : Int) : Rat) 0) else (rw0, rw0, bchkN1 r i)
theorem iv_sign {r i : Rw} (h : wB r i = true) : r.s = decide (iv r < 0) := by
  obtain ⟨x1, x2, x3⟩ := wB_rw h
  have e : r.s = (rwq ((iv r : Int) : Rat)).s := congrArg Rw.s x1
  exact e
theorem bshift_any (V : Value) (r i : Rw) (n : Int) (w : World) (hV : VN w w.heap.size V r i) :
    Calls Try.prog 18 #[V, .int .i64 n] w (RetNE w (qshiftA r i n)) := by
  obtain ⟨A1, c1, D1, d1, A2, c2, D2, d2, rfl, p1, p2, p3, p4⟩ := hV
  unfold qshiftA
  by_cases hk : bchkN1 r i = 0
  · rw [if_pos hk]
    obtain ⟨x1, x2, x3⟩ := wB_rw (bchk1_zero hk)
    by_cases h : n < -16384 ∨ 16384 < n
    · rw [if_pos h]
      by_cases h1 : n < -16384
      · exact bshift_neg r.s i.s r.a r.b i.a i.b A1 D1 A2 D2 c1 d1 c2 d2 w p1 p2 p3 p4 n h1 hk
      · exact bshift_far r.s i.s r.a r.b i.a i.b A1 D1 A2 D2 c1 d1 c2 d2 w p1 p2 p3 p4 n ⟨h1, by omega⟩ hk
    · rw [if_neg h]
      by_cases h0 : 0 ≤ n
      · rw [if_pos h0]
        obtain ⟨m, rfl⟩ : ∃ m : Nat, n = (m : Int) := ⟨n.toNat, by omega⟩
        exact bshift_up r.s i.s r.a r.b i.a i.b A1 D1 A2 D2 c1 d1 c2 d2 w p1 p2 p3 p4 (iv r) m (by omega) (Lib.hid x1) x3 hk
      rw [if_neg h0]
      obtain ⟨m, hm⟩ : ∃ m : Nat, -n = (m : Int) := ⟨(-n).toNat, by omega⟩
      rw [hm, Int.toNat_natCast]
      exact bshift_down r.s i.s r.a r.b i.a i.b A1 D1 A2 D2 c1 d1 c2 d2 w p1 p2 p3 p4 (iv r) n m hm (by omega) (by omega) (Lib.hid x1) x3 hk
  · rw [if_neg hk]
    exact bshift_bad r.s i.s r.a r.b i.a i.b A1 D1 A2 D2 c1 d1 c2 d2 w p1 p2 p3 p4 n _ rfl (beq_eq_false_iff_ne.2 hk)
end Go.Proofs.Ytnlgoedklmjhlaa
