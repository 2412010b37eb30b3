/- Merged texts: HashA, HashB. -/
import Derived.Test.YtccgmeomecjihaaDoorGJ
import Derived.Test.YtccgmeomecjihaaDoorGL
import Derived.Laws.BitsAllLaws
import Derived.Laws.Concat
import Derived.Laws.IdiomStrings
namespace Go.Proofs.YtccgmeomecjihaaDoor
open Go.RowKit

def mixN (h n : Nat) : Nat := ((h ^^^ n) * 1099511628211) % 18446744073709551616
theorem mixN_lt (h n : Nat) : mixN h n < 18446744073709551616 := Nat.mod_lt _ (by decide)
def mixL (h : Nat) (l : List Nat) : Nat := l.foldl mixN h
theorem mixL_cons (h x : Nat) (l : List Nat) : mixL h (x :: l) = mixL (mixN h x) l := rfl
theorem mixL_lt {h : Nat} (hh : h < 18446744073709551616) : ∀ l : List Nat, mixL h l < 18446744073709551616
  | [] => hh
  | x :: l => by rw [mixL_cons]; exact mixL_lt (mixN_lt h x) l
def negH (s : Bool) (h : Nat) : Nat := if s = true then mixN h 1 else h
theorem negH_lt {h : Nat} (s : Bool) (hh : h < 18446744073709551616) : negH s h < 18446744073709551616 := by
  unfold negH; split
  · exact mixN_lt _ _
  · exact hh
def ratH (r : Rw) (h : Nat) : Nat := mixL (mixL (negH r.s h) r.a) r.b
def wU (k : Int) : Nat := (IntKind.u64.wrap k).toNat
def headH (k n : Int) (re im : Rw) (t : ByteArray) (raw : List UInt8) (h : Nat) : Nat :=
  ratH im (ratH re (mixL (mixN (mixN h (wU k)) (wU n)) ((t.data.toList ++ raw).map (·.toNat))))
mutual
/-- what a datum makes of a hasher's number -/
def hD : Dat → Nat → Nat
  | .mk k n re im t raw l, h => hLs l (if k = 8 then headH k n re im t raw h else mixN (headH k n re im t raw h) l.length)
def hLs : List Dat → Nat → Nat
  | [], h => h
  | x :: xs, h => hLs xs (hD x h)
end
theorem hD_eq (d : Dat) (h : Nat) : hD d h = hLs d.l (if d.k = 8 then headH d.k d.n d.re d.im d.t d.raw h else mixN (headH d.k d.n d.re d.im d.t d.raw h) d.l.length) := by
  cases d; rw [hD]; rfl
theorem headH_lt (k n : Int) (re im : Rw) (t : ByteArray) (raw : List UInt8) (h : Nat) : headH k n re im t raw h < 18446744073709551616 := by
  unfold headH ratH
  exact mixL_lt (mixL_lt (negH_lt _ (mixL_lt (mixL_lt (negH_lt _ (mixL_lt (mixN_lt _ _) _)) _) _)) _) _
mutual
theorem hD_lt : ∀ (d : Dat) (h : Nat), h < 18446744073709551616 → hD d h < 18446744073709551616
  | .mk k n re im t raw l, h => fun hh => by
    rw [hD]
    refine hLs_lt l _ ?_
    split
    · exact headH_lt _ _ _ _ _ _ _
    · exact mixN_lt _ _
theorem hLs_lt : ∀ (l : List Dat) (h : Nat), h < 18446744073709551616 → hLs l h < 18446744073709551616
  | [], h => fun hh => by rw [hLs]; exact hh
  | x :: xs, h => fun hh => by rw [hLs]; exact hLs_lt xs _ (hD_lt x h hh)
end
theorem wU_of (k : Int) : IntKind.u64.wrap k = ((wU k : Nat) : Int) ∧ wU k < 18446744073709551616 := by
  have h : 0 ≤ IntKind.u64.wrap k ∧ IntKind.u64.wrap k < 18446744073709551616 := by rw [IntKind.wrap_u64]; omega
  unfold wU
  omega

theorem mix_any (g h n : Nat) (w : World) (hS : SB w g [.int .u64 (h : Int)]) (hh : h < 18446744073709551616) (hn : n < 18446744073709551616) :
    Calls Tryd.prog 30 #[.pointer (some ⟨g, 0, none⟩), .int .u64 (n : Int)] w fun e w' => e = .returned (.tuple #[]) ∧ SB w' g [.int .u64 ((mixN h n : Nat) : Int)] ∧ w.grownBy w' (some g) := by
  have i0 := hS.cell 0
  have f0 := hS.frozen 0
  have hx := u64_xor_nat h n hh hn
  have hm : IntKind.u64.wrap (((h ^^^ n : Nat) : Int) * 1099511628211) = ((mixN h n : Nat) : Int) := by
    rw [IntKind.wrap_u64]; unfold mixN; omega
  have S1 := hS.set 0 (.int .u64 ((mixN h n : Nat) : Int))
  have G1 := grown_set (World.grownBy.refl w (some g)) 0 (.int .u64 ((mixN h n : Nat) : Int))
  clear hS
  generalize h ^^^ n = x at *
  generalize mixN h n = y at *
  go_enter Tryd.func30, Tryd.ntmps30
  go_wp2_with fail
  go_end0
  exact ⟨rfl, S1, G1⟩

theorem RD.words {w : World} {B : Nat} {a : Dat} {x0 x1 x2 x5 x8 x9 x10 : Value} {A1 D1 A2 D2 : Option Addr} {n1 m1 n2 m2 c1 d1 c2 d2 : Nat} (h : RD w B a (.agg #[x0, x1, x2, .slice A1 n1 c1, .slice D1 m1 d1, x5, .slice A2 n2 c2, .slice D2 m2 d2, x8, x9, x10])) : RW w B A1 c1 a.re.a ∧ RW w B D1 d1 a.re.b ∧ RW w B A2 c2 a.im.a ∧ RW w B D2 d2 a.im.b := by
  obtain ⟨_, _, _, _, _, _, _, _, _, _, _, _, hv, ⟨h1, h2, h3, h4, -⟩, -⟩ := h.view
  have := congrArg Array.toList (Value.agg.inj hv)
  simp only [List.cons.injEq, Value.slice.injEq] at this
  rw [this.2.2.2.1.1, this.2.2.2.1.2.2, this.2.2.2.2.1.1, this.2.2.2.2.1.2.2, this.2.2.2.2.2.2.1.1, this.2.2.2.2.2.2.1.2.2, this.2.2.2.2.2.2.2.1.1, this.2.2.2.2.2.2.2.1.2.2]
  exact ⟨h1, h2, h3, h4⟩
def restH (re im : Rw) (i h : Nat) : Nat := if i = 0 then ratH im (ratH re h) else if i = 1 then ratH im h else h
theorem rw_cells {w : World} {B : Nat} {A : Option Addr} {c : Nat} {l : List Nat} (h : RW w B A c l) (h0 : 0 < l.length) : ∃ b off, A = some ⟨b, off, none⟩ ∧ b < B ∧ ∀ (k x : Nat), l[k]? = some x → w.cell? ⟨b, off + k, none⟩ = some (.int .u32 (x : Int)) := h.1.at_ h0
set_option maxRecDepth 100000 in
set_option maxHeartbeats 16000000 in
theorem hash_go (m : Nat) : ∀ (d : Dat), SizeOf.sizeOf d ≤ m → d.Good vU → ∀ (v : Value) (h g : Nat) (w : World), RD w g d v → SB w g [.int .u64 (h : Int)] → h < 18446744073709551616 →
    Calls Tryd.prog 18 #[.pointer (some ⟨g, 0, none⟩), v] w fun e w' => e = .returned (.tuple #[]) ∧ SB w' g [.int .u64 ((hD d h : Nat) : Int)] ∧ w.grownBy w' (some g) := by
  induction m with
  | zero =>
    intro d hd
    exfalso
    cases d
    simp only [Dat.mk.sizeOf_spec] at hd
    omega
  | succ m ih =>
    intro d hd gd v h g w hR hS hh
    obtain ⟨T, hT⟩ : ∃ T, Hid (hD d h = T) := ⟨_, rfl⟩
    rw [hT.out]
    obtain ⟨A1p, c1p, D1p, d1p, A2p, c2p, D2p, d2p, Rp, rcp, Lp, lcp, rfl, -⟩ := hR.view
    have S0 := SB.new w [.int .i64 d.k, .int .i64 d.n, .bool d.re.s, .slice A1p d.re.a.length c1p, .slice D1p d.re.b.length d1p, .bool d.im.s, .slice A2p d.im.a.length c2p, .slice D2p d.im.b.length d2p, .string d.t, .slice Rp d.raw.length rcp, .slice Lp d.l.length lcp] 30
    have B0 := bal w (.cells #[.int .i64 d.k, .int .i64 d.n, .bool d.re.s, .slice A1p d.re.a.length c1p, .slice D1p d.re.b.length d1p, .bool d.im.s, .slice A2p d.im.a.length c2p, .slice D2p d.im.b.length d2p, .string d.t, .slice Rp d.raw.length rcp, .slice Lp d.l.length lcp] 30)
    have G0 : w.grownBy (w.alloc (.cells #[.int .i64 d.k, .int .i64 d.n, .bool d.re.s, .slice A1p d.re.a.length c1p, .slice D1p d.re.b.length d1p, .bool d.im.s, .slice A2p d.im.a.length c2p, .slice D2p d.im.b.length d2p, .string d.t, .slice Rp d.raw.length rcp, .slice Lp d.l.length lcp] 30)) (some g) := World.grownBy_alloc _ _ _
    have hgw := hS.2
    have R0 := RD.step (B0.mono (Nat.le_of_lt hgw)) (Nat.le_refl _) hR
    have C0 := hS.nx B0
    obtain ⟨W0, hW0⟩ : ∃ W0, W0 = w.alloc (.cells #[.int .i64 d.k, .int .i64 d.n, .bool d.re.s, .slice A1p d.re.a.length c1p, .slice D1p d.re.b.length d1p, .bool d.im.s, .slice A2p d.im.a.length c2p, .slice D2p d.im.b.length d2p, .string d.t, .slice Rp d.raw.length rcp, .slice Lp d.l.length lcp] 30) := ⟨_, rfl⟩
    go_enter Tryd.func18, Tryd.ntmps18
    go_upto_region 1 with fail
    rw [← hW0] at S0 G0 R0 C0 ⊢
    clear hW0 hR hS B0
    have hng : w.heap.size ≠ g := by omega
    have hgn : g < w.heap.size := hgw
    generalize hnn : w.heap.size = n at *
    go_loopg [] (SizeOf.sizeOf d) (fun gk wx => ∃ (q : Dat) (cs : List Value) (h' : Nat), SizeOf.sizeOf q ≤ gk ∧ SizeOf.sizeOf q ≤ m + 1 ∧ q.Good vU ∧ RD wx g q (.agg cs.toArray) ∧ SB wx n cs ∧ SB wx g [.int .u64 (h' : Int)] ∧ h' < 18446744073709551616 ∧ Hid (hD q h' = T) ∧ w.grownBy wx (some g))
    case atStart => exact ⟨d, _, h, Nat.le_refl _, hd, gd, R0, S0, C0, hh, hT, G0⟩
    case round =>
      obtain ⟨p, cs, h', hk1, hk2, gp, R, SP, C, hh', hTp, G0'⟩ := hrel
      clear R0 S0 C0 hT G0 hh gd
      have G0 := G0'
      clear G0'
      have gw := C.2
      obtain ⟨A1p, c1p, D1p, d1p, A2p, c2p, D2p, d2p, Rp, rcp, Lp, lcp, hv, -⟩ := R.view
      have hcs2 : cs = [.int .i64 p.k, .int .i64 p.n, .bool p.re.s, .slice A1p p.re.a.length c1p, .slice D1p p.re.b.length d1p, .bool p.im.s, .slice A2p p.im.a.length c2p, .slice D2p p.im.b.length d2p, .string p.t, .slice Rp p.raw.length rcp, .slice Lp p.l.length lcp] := congrArg Array.toList (Value.agg.inj hv)
      subst hcs2
      clear hv
      obtain ⟨e1, b1⟩ := wU_of p.k
      obtain ⟨e2, b2⟩ := wU_of p.n
      have i0 := SP.cell 0; have i1 := SP.cell 1; have i2 := SP.cell 2; have i3 := SP.cell 3; have i4 := SP.cell 4; have i5 := SP.cell 5; have i6 := SP.cell 6; have i7 := SP.cell 7; have i8 := SP.cell 8; have i9 := SP.cell 9; have i10 := SP.cell 10
      go_wp2_with fail
      refine (mix_any g h' (wU p.k) _ C hh' b1).mono ?_; rintro e w1 ⟨rfl, C1, G1⟩
      clear i0 i1 i2 i3 i4 i5 i6 i7 i8 i9 i10
      replace SP := SP.grown G1 hng
      replace R := RD.step (grown_below G1 (Nat.le_refl _) (Nat.le_of_lt gw)) (Nat.le_refl _) R
      have GG := G0.trans G1
      clear G0
      have G0 := GG
      clear GG
      replace gw : g < w1.heap.size := C1.2
      clear G1 C
      have i0 := SP.cell 0; have i1 := SP.cell 1; have i2 := SP.cell 2; have i3 := SP.cell 3; have i4 := SP.cell 4; have i5 := SP.cell 5; have i6 := SP.cell 6; have i7 := SP.cell 7; have i8 := SP.cell 8; have i9 := SP.cell 9; have i10 := SP.cell 10
      go_wp2_with fail
      refine (mix_any g _ (wU p.n) _ C1 (mixN_lt _ _) b2).mono ?_; rintro e w2 ⟨rfl, C2, G2⟩
      clear i0 i1 i2 i3 i4 i5 i6 i7 i8 i9 i10
      replace SP := SP.grown G2 hng
      replace R := RD.step (grown_below G2 (Nat.le_refl _) (Nat.le_of_lt gw)) (Nat.le_refl _) R
      have GG := G0.trans G2
      clear G0
      have G0 := GG
      clear GG
      replace gw : g < w2.heap.size := C2.2
      clear G2 C1 e1 e2 b1 b2
      have hh2 := mixN_lt (mixN h' (wU p.k)) (wU p.n)
      obtain ⟨H2, hH2⟩ : ∃ H2, Hid (mixN (mixN h' (wU p.k)) (wU p.n) = H2) := ⟨_, rfl⟩
      rw [hH2.out] at C2 hh2
      have htz : p.t.size ≤ 1048576 := by obtain ⟨_, _, _, _, _, _, _, _, _, _, _, _, _, _, hh, _⟩ := R.view; exact hh.2.2
      have hrz : p.raw.length ≤ 35184372088832 := by obtain ⟨_, _, _, _, _, _, _, _, _, _, _, _, _, hh, _⟩ := R.view; exact RL.big hh.2.2.2.2
      have cv1 := conv_any R.rawR
      have hrs : (ByteArray.mk p.raw.toArray).size = p.raw.length := by simp [ByteArray.size]
      have hsum : p.t.size + (ByteArray.mk p.raw.toArray).size ≤ 9223372036854775807 := by omega
      have hadd : ∀ w, (Op.stringOp .add p.t ⟨p.raw.toArray⟩).run Tryd.prog w = .ok (.string (p.t ++ ⟨p.raw.toArray⟩)) w := fun w => run_string_add_sum w _ _ hsum
      have hssz : (p.t ++ ⟨p.raw.toArray⟩ : ByteArray).size ≤ 9223372036854775806 := by rw [ByteArray.size_append]; omega
      clear hrs hsum
      have cv2 := run_bytes_of_string (P := Tryd.prog) w2 9 27 5 (p.t ++ ⟨p.raw.toArray⟩) Tryd.underlying9 Tryd.underlying27 Tryd.underlying5
      have hlt : (p.t ++ ⟨p.raw.toArray⟩).data.toList = p.t.data.toList ++ p.raw := by simp [ByteArray.data_append]
      obtain ⟨s, hs⟩ : ∃ s, p.t ++ ⟨p.raw.toArray⟩ = s := ⟨_, rfl⟩
      rw [hs] at hadd cv2 hlt hssz
      clear hs
      generalize grownCap w2 s.size 0 5 = cap at *
      have B3 := (Below.refl w2.heap.size w2).drew.alloc (Nat.le_refl _) (.cells (bytesRow s cap) 5 ((bytesRow s cap).size, (bytesRow s cap).size + 1))
      have hnew : (w2.drew.alloc (.cells (bytesRow s cap) 5 ((bytesRow s cap).size, (bytesRow s cap).size + 1))).heap[w2.heap.size]? = some (.cells (bytesRow s cap) 5 ((bytesRow s cap).size, (bytesRow s cap).size + 1)) := heap_alloc_new w2.drew _
      have hcell : ∀ k (hk : k < s.data.size), (w2.drew.alloc (.cells (bytesRow s cap) 5 ((bytesRow s cap).size, (bytesRow s cap).size + 1))).cell? ⟨w2.heap.size, k, none⟩ = some (.int .u8 ((s.data[k].toNat : Nat) : Int)) := fun k hk => by
        rw [cell_of_row _ _ _ _ _ _ hnew, bytesRow_at s cap k hk]
      obtain ⟨w3, hw3⟩ : ∃ w3, w3 = w2.drew.alloc (.cells (bytesRow s cap) 5 ((bytesRow s cap).size, (bytesRow s cap).size + 1)) := ⟨_, rfl⟩
      rw [← hw3] at cv2 B3 hcell
      clear hw3 hnew
      have i0 := SP.cell 0; have i1 := SP.cell 1; have i2 := SP.cell 2; have i3 := SP.cell 3; have i4 := SP.cell 4; have i5 := SP.cell 5; have i6 := SP.cell 6; have i7 := SP.cell 7; have i8 := SP.cell 8; have i9 := SP.cell 9; have i10 := SP.cell 10
      go_upto_region 4 with fail
      clear i0 i1 i2 i3 i4 i5 i6 i7 i8 i9 i10
      clear cv1 cv2 hadd
      have C3 := C2.nx B3
      replace SP := SP.nx B3
      replace R := RD.step (B3.mono (Nat.le_of_lt gw)) (Nat.le_refl _) R
      have GG := grown_bel G0 B3
      clear G0
      have G0 := GG
      clear GG
      have hb2g : w2.heap.size ≠ g := by omega
      replace gw : g < w3.heap.size := C3.2
      clear B3 C2
      generalize w2.heap.size = bB at *
      have hss : (s.size : Int) = ((s.data.size : Nat) : Int) := rfl
      obtain ⟨H3, hH3⟩ : ∃ H3, Hid (mixL H2 (s.data.toList.map (·.toNat)) = H3) := ⟨_, rfl⟩
      go_loopg [32] s.size (fun gk s32 wx => ∃ (i h3 : Nat), s32 = .int .i64 (i : Int) ∧ i ≤ s.size ∧ s.size - i = gk ∧ Hid (mixL h3 ((s.data.toList.map (·.toNat)).drop i) = H3) ∧ SB wx g [.int .u64 (h3 : Int)] ∧ h3 < 18446744073709551616 ∧ w3.grownBy wx (some g))
      case atStart => exact ⟨0, H2, rfl, Nat.zero_le _, rfl, hH3, C3, hh2, World.grownBy.refl _ _⟩
      case round =>
        obtain ⟨i, h3, rfl, hil, hgk, hI, C4, hh3, G4⟩ := hrel
        clear C3 hh2
        by_cases hi : i < s.size
        · have hi' : i < s.data.size := hi
          have kc := G4.cell (hcell i hi') (by simpa using hb2g)
          have hdr : (s.data.toList.map (·.toNat)).drop i = s.data[i].toNat :: (s.data.toList.map (·.toNat)).drop (i + 1) := by
            rw [List.drop_eq_getElem_cons (by simp; omega)]; simp
          replace hI := hI.out
          rw [hdr, mixL_cons] at hI
          replace hI := Lib.hid hI
          have hx8 := s.data[i].toNat_lt
          generalize s.data[i].toNat = x at *
          clear hdr
          have hwx : IntKind.u64.wrap (x : Int) = (x : Int) := by rw [IntKind.wrap_u64]; omega
          have hwi : IntKind.i64.wrap ((i : Int) + 1) = (i : Int) + 1 := IntWalk.i64_in _ (by omega)
          go_wp2_with fail
          refine (mix_any g h3 x _ C4 hh3 (by omega)).mono ?_; rintro e w5 ⟨rfl, C5, G5⟩
          have G6 := G4.trans G5
          clear kc G4 G5 C4
          go_wp2_with fail
          go_roundg (s.size - (i + 1))
          case measure => omega
          case rel => exact ⟨i + 1, _, by go_num, by omega, rfl, hI, C5, mixN_lt _ _, G6⟩
        · obtain rfl : i = s.size := by omega
          have hfin : Hid (h3 = H3) := Lib.hid (by
            have := hI.out
            rw [List.drop_eq_nil_of_le (by simp)] at this
            exact this)
          clear hI hgk hil hcell hss
          replace SP := SP.grown G4 hng
          replace R := RD.step (grown_below G4 (Nat.le_refl _) (Nat.le_of_lt gw)) (Nat.le_refl _) R
          have GG := G0.trans G4
          clear G0
          have G0 := GG
          clear GG
          replace gw : g < wr.heap.size := C4.2
          rw [hfin.out] at C4 hh3
          clear hfin G4
          have SQ := SB.new wr [.bool p.re.s, .slice A1p p.re.a.length c1p, .slice D1p p.re.b.length d1p, .bool p.im.s, .slice A2p p.im.a.length c2p, .slice D2p p.im.b.length d2p] 24
          have BQ := bal wr (.cells #[.bool p.re.s, .slice A1p p.re.a.length c1p, .slice D1p p.re.b.length d1p, .bool p.im.s, .slice A2p p.im.a.length c2p, .slice D2p p.im.b.length d2p] 24)
          have i0 := SP.cell 0; have i1 := SP.cell 1; have i2 := SP.cell 2; have i3 := SP.cell 3; have i4 := SP.cell 4; have i5 := SP.cell 5; have i6 := SP.cell 6; have i7 := SP.cell 7; have i8 := SP.cell 8; have i9 := SP.cell 9; have i10 := SP.cell 10
          go_upto_region 9 with fail
          clear i0 i1 i2 i3 i4 i5 i6 i7 i8 i9 i10
          obtain ⟨wq, hwq⟩ : ∃ wq, wq = wr.alloc (.cells #[.bool p.re.s, .slice A1p p.re.a.length c1p, .slice D1p p.re.b.length d1p, .bool p.im.s, .slice A2p p.im.a.length c2p, .slice D2p p.im.b.length d2p] 24) := ⟨_, rfl⟩
          rw [← hwq] at SQ BQ ⊢
          clear hwq
          have CQ := C4.nx BQ
          replace SP := SP.nx BQ
          replace R := RD.step (BQ.mono (Nat.le_of_lt gw)) (Nat.le_refl _) R
          have GG := grown_bel G0 BQ
          clear G0
          have G0 := GG
          clear GG
          have hqg : wr.heap.size ≠ g := by omega
          replace gw : g < wq.heap.size := CQ.2
          clear BQ C4
          generalize wr.heap.size = bQ at *
          obtain ⟨rw1, rw2, rw3, rw4⟩ := R.words
          obtain ⟨H4, hH4⟩ : ∃ H4, Hid (ratH p.im (ratH p.re H3) = H4) := ⟨_, rfl⟩
          go_loopg [49] 2 (fun gk s49 wx => ∃ (i h4 : Nat), s49 = .int .i64 (i : Int) ∧ i ≤ 2 ∧ 2 - i = gk ∧ Hid (restH p.re p.im i h4 = H4) ∧ SB wx g [.int .u64 (h4 : Int)] ∧ h4 < 18446744073709551616 ∧ wq.grownBy wx (some g))
          case atStart => exact ⟨0, H3, rfl, by omega, rfl, hH4, CQ, hh3, World.grownBy.refl _ _⟩
          case round =>
            obtain ⟨i, h4, rfl, hil, hgk, hI, C5, hh4, G5⟩ := hrel
            clear CQ hh3
            by_cases hi : i < 2
            · have SQ5 := SQ.grown G5 hqg
              have gb5 := grown_below G5 (Nat.le_refl _) (Nat.le_of_lt gw)
              obtain ⟨r, A, c, Dd, dd, q0, q1, q2, rA, rB, hrest⟩ : ∃ (r : Rw) (A : Option Addr) (c : Nat) (Dd : Option Addr) (dd : Nat), wr.cell? ⟨bQ, i * 3, none⟩ = some (.bool r.s) ∧ wr.cell? ⟨bQ, i * 3 + 1, none⟩ = some (.slice A r.a.length c) ∧ wr.cell? ⟨bQ, i * 3 + 2, none⟩ = some (.slice Dd r.b.length dd) ∧ RW wr g A c r.a ∧ RW wr g Dd dd r.b ∧ ∀ h, restH p.re p.im i h = restH p.re p.im (i + 1) (ratH r h) := by
                match i, hi with
                | 0, _ => exact ⟨p.re, A1p, c1p, D1p, d1p, SQ5.cell 0, SQ5.cell 1, SQ5.cell 2, rw1.below gb5, rw2.below gb5, fun h => rfl⟩
                | 1, _ => exact ⟨p.im, A2p, c2p, D2p, d2p, SQ5.cell 3, SQ5.cell 4, SQ5.cell 5, rw3.below gb5, rw4.below gb5, fun h => rfl⟩
              have hIr := Lib.hid ((hrest h4).symm.trans hI.out)
              have hwi : IntKind.i64.wrap ((i : Int) + 1) = (i : Int) + 1 := IntWalk.i64_in _ (by omega)
              clear hI hrest SQ5 gb5
              have S7 := SB.new wr [.bool r.s, .slice A r.a.length c, .slice Dd r.b.length dd] 24
              have B7 := bal wr (.cells #[.bool r.s, .slice A r.a.length c, .slice Dd r.b.length dd] 24)
              go_upto_region 11 with fail
              obtain ⟨w7, hw7⟩ : ∃ w7, w7 = wr.alloc (.cells #[.bool r.s, .slice A r.a.length c, .slice Dd r.b.length dd] 24) := ⟨_, rfl⟩
              rw [← hw7] at S7 B7 ⊢
              clear hw7 q0 q1 q2
              have C7 := C5.nx B7
              have gw7 := C5.2
              have G7 := grown_bel G5 B7
              have rA := rA.below (B7.mono (Nat.le_of_lt gw7))
              have rB := rB.below (B7.mono (Nat.le_of_lt gw7))
              have h7g : wr.heap.size ≠ g := by omega
              replace gw7 := C7.2
              clear B7 C5 G5
              generalize wr.heap.size = b7 at *
              have k0 := S7.cell 0
              go_upto_if 54 with fail
              clear k0
              go_cut [] (fun wx => SB wx g [.int .u64 ((negH r.s h4 : Nat) : Int)] ∧ w7.grownBy wx (some g))
              case first =>
                cases hrs : r.s with
                | true =>
                  go_wp2_with fail
                  refine (mix_any g h4 1 _ C7 hh4 (by decide)).mono ?_; rintro e w8 ⟨rfl, C8, G8⟩
                  go_wp2_with fail
                  go_meet
                  exact ⟨by simpa [negH, hrs] using C8, G8⟩
                | false =>
                  go_wp2_with fail
                  go_meet
                  exact ⟨by simpa [negH, hrs] using C7, World.grownBy.refl _ _⟩
              case rest =>
                obtain ⟨C8, G8⟩ := hcut
                generalize hw8 : wc = w8 at *
                clear hw8 C7
                have gb8 := grown_below G8 (Nat.le_refl _) (Nat.le_of_lt gw7)
                replace S7 := S7.grown G8 h7g
                replace rA := rA.below gb8
                replace rB := rB.below gb8
                have G8 := G7.trans G8
                have hh8 := negH_lt r.s hh4
                replace gw7 := C8.2
                clear gb8 G7 hh4
                obtain ⟨Hn, hHn⟩ : ∃ Hn, Hid (negH r.s h4 = Hn) := ⟨_, rfl⟩
                rw [hHn.out] at C8 hh8
                obtain ⟨H5, hH5⟩ : ∃ H5, Hid (mixL Hn r.a = H5) := ⟨_, rfl⟩
                obtain ⟨H6, hH6⟩ : ∃ H6, Hid (mixL H5 r.b = H6) := ⟨_, rfl⟩
                have hrat : Hid (ratH r h4 = H6) := Lib.hid (by unfold ratH; rw [hHn.out, hH5.out, hH6.out])
                clear hHn
                have kk := S7.cell 1
                go_upto_region 14 with fail
                clear kk
                have rbig := rA.big
                go_loopg [60] r.a.length (fun gk s60 wx => ∃ (j h5 : Nat), s60 = .int .i64 (j : Int) ∧ j ≤ r.a.length ∧ r.a.length - j = gk ∧ Hid (mixL h5 (r.a.drop j) = H5) ∧ SB wx g [.int .u64 (h5 : Int)] ∧ h5 < 18446744073709551616 ∧ w8.grownBy wx (some g))
                case atStart => exact ⟨0, Hn, rfl, Nat.zero_le _, rfl, hH5, C8, hh8, World.grownBy.refl _ _⟩
                case round =>
                  obtain ⟨j, h5, rfl, hjl, hgj, hJ, C9, hh9, G9⟩ := hrel
                  clear C8 hh8
                  by_cases hj : j < r.a.length
                  · obtain ⟨b, off, hAe, hbg, hcs⟩ := rw_cells rA (by omega)
                    subst hAe
                    have hx := List.getElem?_eq_getElem hj
                    have kc := G9.cell (hcs j _ hx) (by simp; omega)
                    have hx32 : r.a[j] < 4294967296 := rA.b32 _ (List.getElem_mem hj)
                    replace hJ := hJ.out
                    rw [List.drop_eq_getElem_cons hj, mixL_cons] at hJ
                    replace hJ := Lib.hid hJ
                    generalize r.a[j] = x at *
                    clear hx hcs
                    have hwx : IntKind.u64.wrap (x : Int) = (x : Int) := by rw [IntKind.wrap_u64]; omega
                    have hwj : IntKind.i64.wrap ((j : Int) + 1) = (j : Int) + 1 := IntWalk.i64_in _ (by omega)
                    go_wp2_with fail
                    refine (mix_any g h5 x _ C9 hh9 (by omega)).mono ?_; rintro e w10 ⟨rfl, C10, G10⟩
                    have G11 := G9.trans G10
                    clear kc G9 G10 C9
                    go_wp2_with fail
                    go_roundg (r.a.length - (j + 1))
                    case measure => omega
                    case rel => exact ⟨j + 1, _, by go_num, by omega, rfl, hJ, C10, mixN_lt _ _, G11⟩
                  · obtain rfl : j = r.a.length := by omega
                    have hfin : Hid (h5 = H5) := Lib.hid (by
                      have := hJ.out
                      rw [List.drop_length] at this
                      exact this)
                    rw [hfin.out] at C9 hh9
                    clear hJ hgj hjl hfin rbig
                    have gb9 := grown_below G9 (Nat.le_refl _) (Nat.le_of_lt gw7)
                    replace S7 := S7.grown G9 h7g
                    replace rB := rB.below gb9
                    have G9 := G8.trans G9
                    replace gw7 := C9.2
                    clear gb9 G8 hH5 rA
                    generalize hw9 : wr = w9 at *
                    clear hw9
                    have C8 := C9
                    have hh8 := hh9
                    have G8 := G9
                    clear C9 hh9 G9 hj
                    have kk := S7.cell 2
                    go_upto_region 19 with fail
                    clear kk
                    have rbig := rB.big
                    go_loopg [72] r.b.length (fun gk s72 wx => ∃ (j h5 : Nat), s72 = .int .i64 (j : Int) ∧ j ≤ r.b.length ∧ r.b.length - j = gk ∧ Hid (mixL h5 (r.b.drop j) = H6) ∧ SB wx g [.int .u64 (h5 : Int)] ∧ h5 < 18446744073709551616 ∧ w9.grownBy wx (some g))
                    case atStart => exact ⟨0, H5, rfl, Nat.zero_le _, rfl, hH6, C8, hh8, World.grownBy.refl _ _⟩
                    case round =>
                      obtain ⟨j, h5, rfl, hjl, hgj, hJ, C9, hh9, G9⟩ := hrel
                      clear C8 hh8
                      by_cases hj : j < r.b.length
                      · obtain ⟨b, off, hAe, hbg, hcs⟩ := rw_cells rB (by omega)
                        subst hAe
                        have hx := List.getElem?_eq_getElem hj
                        have kc := G9.cell (hcs j _ hx) (by simp; omega)
                        have hx32 : r.b[j] < 4294967296 := rB.b32 _ (List.getElem_mem hj)
                        replace hJ := hJ.out
                        rw [List.drop_eq_getElem_cons hj, mixL_cons] at hJ
                        replace hJ := Lib.hid hJ
                        generalize r.b[j] = x at *
                        clear hx hcs
                        have hwx : IntKind.u64.wrap (x : Int) = (x : Int) := by rw [IntKind.wrap_u64]; omega
                        have hwj : IntKind.i64.wrap ((j : Int) + 1) = (j : Int) + 1 := IntWalk.i64_in _ (by omega)
                        go_wp2_with fail
                        refine (mix_any g h5 x _ C9 hh9 (by omega)).mono ?_; rintro e w10 ⟨rfl, C10, G10⟩
                        have G11 := G9.trans G10
                        clear kc G9 G10 C9
                        go_wp2_with fail
                        go_roundg (r.b.length - (j + 1))
                        case measure => omega
                        case rel => exact ⟨j + 1, _, by go_num, by omega, rfl, hJ, C10, mixN_lt _ _, G11⟩
                      · obtain rfl : j = r.b.length := by omega
                        have hfin : Hid (h5 = H6) := Lib.hid (by
                          have := hJ.out
                          rw [List.drop_length] at this
                          exact this)
                        rw [hfin.out] at C9 hh9
                        clear hJ hgj hjl hfin rbig
                        have G9 := G8.trans G9
                        clear G8 hH6 rB S7
                        rw [← hrat.out] at C9 hh9
                        clear hrat
                        generalize hlb : r.b.length = lb at *
                        go_wp2_with fail
                        go_roundg (2 - (i + 1))
                        case measure => omega
                        case rel => exact ⟨i + 1, _, by go_num, by omega, rfl, hIr, C9, hh9, G9⟩
            · obtain rfl : i = 2 := by omega
              have hfin : Hid (h4 = H4) := Lib.hid (by have := hI.out; exact this)
              rw [hfin.out] at C5 hh4
              clear hI hgk hil hfin rw1 rw2 rw3 rw4 SQ
              replace SP := SP.grown G5 hng
              replace R := RD.step (grown_below G5 (Nat.le_refl _) (Nat.le_of_lt gw)) (Nat.le_refl _) R
              have GG := G0.trans G5
              clear G0
              have G0 := GG
              clear GG
              replace gw : g < wr.heap.size := C5.2
              have hhd : headH p.k p.n p.re p.im p.t p.raw h' = H4 := by unfold headH; rw [hH2.out, ← hlt, hH3.out, hH4.out]
              have hTo := hTp.out
              rw [hD_eq, hhd] at hTo
              clear hTp hhd hH2 hH3 hH4 hlt
              have hlP : p.l.length ≤ 35184372088832 := by obtain ⟨_, _, _, _, _, _, _, _, _, _, _, _, _, _, _, hh, _⟩ := R.view; exact hh.2
              by_cases h8 : p.k = 8
              · have t8 : (p.k != 8) = false := by rw [h8]; rfl
                obtain ⟨x, y, hxy⟩ := pair_two gp.shape h8
                rw [if_pos h8, hxy, hLs, hLs, hLs] at hTo
                replace hTo := Lib.hid hTo
                have gx := gp.kids x (by rw [hxy]; simp)
                have gy := gp.kids y (by rw [hxy]; simp)
                have sx := Dat.lt_of_mem (d := p) (x := x) (by rw [hxy]; simp)
                have sy := Dat.lt_of_mem (d := p) (x := y) (by rw [hxy]; simp)
                obtain ⟨bA, oA, hA, hbA, dA⟩ := R.kids (by rw [hxy]; simp)
                subst hA
                rw [hxy] at dA
                have hpl : p.l.length = 2 := by rw [hxy]; rfl
                obtain ⟨vx, Rx, cx⟩ := dA.get (i := 0) (x := x) rfl
                obtain ⟨vy, Ry, cy⟩ := dA.get (i := 1) (x := y) rfl
                obtain ⟨xs, rfl, xl, -⟩ := Rx.agg
                obtain ⟨ys, rfl, yl, yo⟩ := Ry.agg
                match xs, xl with
                | [x0, x1, x2, x3, x4, x5, x6, x7, x8, x9, x10], _ =>
                have hcx : ∀ (j : Nat) (u : Value), [x0, x1, x2, x3, x4, x5, x6, x7, x8, x9, x10][j]? = some u → wr.cell? ⟨bA, oA + j, none⟩ = some u := fun j u hj => by have := cx _ rfl j u (by simpa using hj); simpa using this
                have cy : ∀ (j : Nat) (u : Value), ys[j]? = some u → wr.cell? ⟨bA, oA + 11 + j, none⟩ = some u := fun j u hj => by have := cy _ rfl j u (by simpa using hj); simpa using this
                clear dA cx hxy
                replace h8 := Lib.hid h8
                have k0 := hcx 0 _ rfl; have k1 := hcx 1 _ rfl; have k2 := hcx 2 _ rfl; have k3 := hcx 3 _ rfl; have k4 := hcx 4 _ rfl; have k5 := hcx 5 _ rfl; have k6 := hcx 6 _ rfl; have k7 := hcx 7 _ rfl; have k8 := hcx 8 _ rfl; have k9 := hcx 9 _ rfl; have k10 := hcx 10 _ rfl
                simp only [Nat.add_zero] at k0
                have i0 := SP.cell 0; have i1 := SP.cell 1; have i2 := SP.cell 2; have i3 := SP.cell 3; have i4 := SP.cell 4; have i5 := SP.cell 5; have i6 := SP.cell 6; have i7 := SP.cell 7; have i8 := SP.cell 8; have i9 := SP.cell 9; have i10 := SP.cell 10
                rw [hpl] at i10
                go_wp2_with fail
                refine (ih x (by omega) gx _ H4 g wr Rx C5 hh4).mono ?_
                rintro e w6 ⟨rfl, C6, G6⟩
                clear k0 k1 k2 k3 k4 k5 k6 k7 k8 k9 k10
                clear i0 i1 i2 i3 i4 i5 i6 i7 i8 i9 i10
                replace SP := SP.grown G6 hng
                replace R := RD.step (grown_below G6 (Nat.le_refl _) (Nat.le_of_lt gw)) (Nat.le_refl _) R
                have GG := G0.trans G6
                clear G0
                have G0 := GG
                clear GG
                replace gw : g < w6.heap.size := C6.2
                have Ry := RD.step (grown_below G6 (Nat.le_refl _) (Nat.le_of_lt C5.2)) (Nat.le_refl _) Ry
                have cy : ∀ (j : Nat) (u : Value), ys[j]? = some u → w6.cell? ⟨bA, oA + 11 + j, none⟩ = some u := fun j u hj => G6.cell (cy j u hj) (by simp; omega)
                clear hcx Rx C5 G6
                have hh6 := hD_lt x H4 hh4
                match ys, yl, yo with
                | [x0, x1, x2, x3, x4, x5, x6, x7, x8, x9, x10], _, yo =>
                have S7 := SP.cells [x0, x1, x2, x3, x4, x5, x6, x7, x8, x9, x10] rfl
                have C7 := C6.cells_far (g := n) (by omega) [x0, x1, x2, x3, x4, x5, x6, x7, x8, x9, x10]
                have G7 := grown_cells G0 (b := n) (Nat.le_of_eq hnn) [x0, x1, x2, x3, x4, x5, x6, x7, x8, x9, x10]
                have R7 := RD.step (below_sc (Below.refl g w6) (b := n) (Nat.le_of_lt hgn) [x0, x1, x2, x3, x4, x5, x6, x7, x8, x9, x10]) (Nat.le_refl _) Ry
                obtain ⟨w7, hw7⟩ : ∃ w7, w7 = w6.setCells n 0 [x0, x1, x2, x3, x4, x5, x6, x7, x8, x9, x10] := ⟨_, rfl⟩
                rw [← hw7] at S7 C7 G7 R7
                replace hw7 := Lib.hid hw7
                have k0 := cy 0 _ rfl; have k1 := cy 1 _ rfl; have k2 := cy 2 _ rfl; have k3 := cy 3 _ rfl; have k4 := cy 4 _ rfl; have k5 := cy 5 _ rfl; have k6 := cy 6 _ rfl; have k7 := cy 7 _ rfl; have k8 := cy 8 _ rfl; have k9 := cy 9 _ rfl; have k10 := cy 10 _ rfl
                simp only [Nat.add_zero] at k0
                have i0 := SP.cell 0; have i1 := SP.cell 1; have i2 := SP.cell 2; have i3 := SP.cell 3; have i4 := SP.cell 4; have i5 := SP.cell 5; have i6 := SP.cell 6; have i7 := SP.cell 7; have i8 := SP.cell 8; have i9 := SP.cell 9; have i10 := SP.cell 10
                rw [hpl] at i10
                go_wp2_with (refine wp_stD rfl rfl (.tmp 3) (.tmp 94) rfl n rfl [x0, x1, x2, x3, x4, x5, x6, x7, x8, x9, x10] rfl rfl _ SP rfl yo ?_; rw [← hw7.out])
                go_roundg (SizeOf.sizeOf y)
                case measure => omega
                case rel => exact ⟨y, _, _, Nat.le_refl _, by omega, gy, R7, S7, C7, hh6, hTo, G7⟩
              have t8 : (p.k != 8) = true := bne_iff_ne.2 h8
              rw [if_neg h8] at hTo
              clear h8
              have hwl : IntKind.u64.wrap (p.l.length : Int) = (p.l.length : Int) := by rw [IntKind.wrap_u64]; omega
              have i0 := SP.cell 0; have i1 := SP.cell 1; have i2 := SP.cell 2; have i3 := SP.cell 3; have i4 := SP.cell 4; have i5 := SP.cell 5; have i6 := SP.cell 6; have i7 := SP.cell 7; have i8 := SP.cell 8; have i9 := SP.cell 9; have i10 := SP.cell 10
              go_wp2_with fail
              refine (mix_any g H4 p.l.length _ C5 hh4 (by omega)).mono ?_; rintro e w6 ⟨rfl, C6, G6⟩
              clear i0 i1 i2 i3 i4 i5 i6 i7 i8 i9 i10
              replace SP := SP.grown G6 hng
              replace R := RD.step (grown_below G6 (Nat.le_refl _) (Nat.le_of_lt gw)) (Nat.le_refl _) R
              have GG := G0.trans G6
              clear G0
              have G0 := GG
              clear GG
              replace gw : g < w6.heap.size := C6.2
              clear C5 G6
              have hh6 := mixN_lt H4 p.l.length
              obtain ⟨Hm, hHm⟩ : ∃ Hm, mixN H4 p.l.length = Hm := ⟨_, rfl⟩
              rw [hHm] at C6 hh6 hTo
              clear hHm hwl
              have hT0 : Hid (hLs (p.l.drop 0) Hm = T) := Lib.hid hTo
              clear hTo
              have i10 := SP.cell 10
              go_upto_region 29 with fail
              clear i10
              go_loopg [104] p.l.length (fun gk s104 wx => ∃ (i h7 : Nat), s104 = .int .i64 (i : Int) ∧ i ≤ p.l.length ∧ p.l.length - i = gk ∧ Hid (hLs (p.l.drop i) h7 = T) ∧ SB wx g [.int .u64 (h7 : Int)] ∧ h7 < 18446744073709551616 ∧ w6.grownBy wx (some g))
              case atStart => exact ⟨0, Hm, rfl, Nat.zero_le _, rfl, hT0, C6, hh6, World.grownBy.refl _ _⟩
              case round =>
                obtain ⟨i, h7, rfl, hil, hgk, hI, C7, hh7, G7⟩ := hrel
                clear C6 hh6 hT0
                by_cases hi : i < p.l.length
                · obtain ⟨bA, oA, hA, hbA, dA⟩ := R.kids (by omega)
                  have hx1 := List.getElem?_eq_getElem hi
                  have gx := gp.kids _ (List.getElem_mem hi)
                  have hsz : SizeOf.sizeOf p.l[i] ≤ m := by have := Dat.lt_of_mem (d := p) (List.getElem_mem hi); omega
                  have hI := hI.out
                  rw [List.drop_eq_getElem_cons hi, hLs] at hI
                  replace hI := Lib.hid hI
                  generalize p.l[i] = x at *
                  obtain ⟨vx, Rx, cx⟩ := dA.get hx1
                  obtain ⟨xs, rfl, xl, xo⟩ := Rx.agg
                  match xs, xl, xo with
                  | [x0, x1, x2, x3, x4, x5, x6, x7, x8, x9, x10], _, xo =>
                  have hcx : ∀ (j : Nat) (u : Value), [x0, x1, x2, x3, x4, x5, x6, x7, x8, x9, x10][j]? = some u → wr.cell? ⟨bA, oA + i * 11 + j, none⟩ = some u := fun j u hj => G7.cell (by have := cx _ rfl j u (by simpa using hj); simpa using this) (by simp; omega)
                  subst hA
                  clear dA cx hx1
                  have gw7 := C7.2
                  have gb7 := grown_below G7 (Nat.le_refl _) (Nat.le_of_lt gw)
                  have Rx := RD.step gb7 (Nat.le_refl _) Rx
                  have SZ := SB.new wr [.int .i64 0, .int .i64 0, .bool false, .slice none 0 0, .slice none 0 0, .bool false, .slice none 0 0, .slice none 0 0, .string { data := #[] }, .slice none 0 0, .slice none 0 0] 30
                  have BZ := bal wr (.cells #[.int .i64 0, .int .i64 0, .bool false, .slice none 0 0, .slice none 0 0, .bool false, .slice none 0 0, .slice none 0 0, .string { data := #[] }, .slice none 0 0, .slice none 0 0] 30)
                  have S9 := SZ.cells [x0, x1, x2, x3, x4, x5, x6, x7, x8, x9, x10] rfl
                  have C9 := (C7.nx BZ).cells_far (g := wr.heap.size) (by omega) [x0, x1, x2, x3, x4, x5, x6, x7, x8, x9, x10]
                  have G9 := grown_cells (grown_bel G7 BZ) (b := wr.heap.size) G7.size [x0, x1, x2, x3, x4, x5, x6, x7, x8, x9, x10]
                  have B9 := below_sc (BZ.mono (Nat.le_of_lt gw7)) (b := wr.heap.size) (Nat.le_of_lt gw7) [x0, x1, x2, x3, x4, x5, x6, x7, x8, x9, x10]
                  have Rx := RD.step B9 (Nat.le_refl _) Rx
                  obtain ⟨w9, hw9⟩ : ∃ w9, w9 = (wr.alloc (.cells #[.int .i64 0, .int .i64 0, .bool false, .slice none 0 0, .slice none 0 0, .bool false, .slice none 0 0, .slice none 0 0, .string { data := #[] }, .slice none 0 0, .slice none 0 0] 30)).setCells wr.heap.size 0 [x0, x1, x2, x3, x4, x5, x6, x7, x8, x9, x10] := ⟨_, rfl⟩
                  rw [← hw9] at S9 C9 G9 Rx
                  replace hw9 := Lib.hid hw9
                  clear B9 BZ C7 gb7
                  have k0 := hcx 0 _ rfl; have k1 := hcx 1 _ rfl; have k2 := hcx 2 _ rfl; have k3 := hcx 3 _ rfl; have k4 := hcx 4 _ rfl; have k5 := hcx 5 _ rfl; have k6 := hcx 6 _ rfl; have k7 := hcx 7 _ rfl; have k8 := hcx 8 _ rfl; have k9 := hcx 9 _ rfl; have k10 := hcx 10 _ rfl
                  simp only [Nat.add_zero] at k0
                  have hlr : (i : Int) < (p.l.length : Int) := by omega
                  have hwi : IntKind.i64.wrap ((i : Int) + 1) = (i : Int) + 1 := IntWalk.i64_in _ (by omega)
                  go_upto_region 31 with (refine wp_stD rfl rfl (.tmp 13) (.tmp 107) rfl wr.heap.size rfl [x0, x1, x2, x3, x4, x5, x6, x7, x8, x9, x10] rfl rfl _ SZ rfl xo ?_; rw [← hw9.out])
                  clear k0 k1 k2 k3 k4 k5 k6 k7 k8 k9 k10
                  clear SZ hw9 hcx G7
                  generalize wr.heap.size = g9 at *
                  have k0 := S9.cell 0; have k1 := S9.cell 1; have k2 := S9.cell 2; have k3 := S9.cell 3; have k4 := S9.cell 4; have k5 := S9.cell 5; have k6 := S9.cell 6; have k7 := S9.cell 7; have k8 := S9.cell 8; have k9 := S9.cell 9; have k10 := S9.cell 10
                  go_wp2_with fail
                  refine (ih x hsz gx _ h7 g w9 Rx C9 hh7).mono ?_
                  rintro e w10 ⟨rfl, C10, G10⟩
                  clear k0 k1 k2 k3 k4 k5 k6 k7 k8 k9 k10
                  clear S9
                  have G11 := G9.trans G10
                  have hh10 := hD_lt x h7 hh7
                  clear G9 G10 C9 Rx hlr
                  generalize hll : p.l.length = ll at *
                  go_wp2_with fail
                  go_roundg (ll - (i + 1))
                  case measure => omega
                  case rel => exact ⟨i + 1, _, by go_num, by omega, rfl, hI, C10, hh10, G11⟩
                · obtain rfl : i = p.l.length := by omega
                  have hfin : Hid (h7 = T) := Lib.hid (by
                    have := hI.out
                    rw [List.drop_length, hLs] at this
                    exact this)
                  have GT := G0.trans G7
                  clear hI hgk hil R SP
                  generalize p.l.length = ll at *
                  go_wp2_with fail
                  go_end0
                  exact ⟨rfl, by rw [← hfin.out]; exact C7, GT⟩
end Go.Proofs.YtccgmeomecjihaaDoor
namespace Go.Proofs.YtccgmeomecjihaaDoor
open Go.RowKit

/-- Hash of any data -/
def hashD (d : Dat) : Nat := if d.sound vU = true then hD d 14695981039346656037 else 0
set_option maxRecDepth 100000 in
set_option maxHeartbeats 4000000 in
theorem hash_any {a : Dat} {va : Value} {w : World} (ha : RD w w.heap.size a va) (hV : VS vU w.heap.size w) :
    Calls Tryd.prog 12 #[va] w fun e w' => e = .returned (.int .u64 ((hashD a : Nat) : Int)) ∧ Below w.heap.size w w' := by
  obtain ⟨z, hz⟩ : ∃ z, Hid (hashD a = z) := ⟨_, rfl⟩
  rw [hz.out]
  obtain ⟨la, rfl, hla, -⟩ := ha.agg
  match la, hla with
  | [x0, x1, x2, x3, x4, x5, x6, x7, x8, x9, x10], _ =>
  have SA := SB.new (w) [x0, x1, x2, x3, x4, x5, x6, x7, x8, x9, x10] 30
  have Ba := bal (w) (.cells #[x0, x1, x2, x3, x4, x5, x6, x7, x8, x9, x10] 30)
  have BB := Ba
  have RA := ha.st BB
  have V := (hV.st BB).more BB.size
  go_enter Tryd.func12, Tryd.ntmps12
  go_upto_region 1 with fail
  obtain ⟨W0, hW0⟩ : ∃ W0, W0 = (w).alloc (.cells #[x0, x1, x2, x3, x4, x5, x6, x7, x8, x9, x10] 30) := ⟨_, rfl⟩
  rw [← hW0] at SA BB RA V ⊢
  clear hW0 Ba ha hV 
  generalize hn : w.heap.size = n at *
  have hnw : n < W0.heap.size := Nat.lt_of_le_of_lt (Nat.le_of_eq hn.symm) (by rw [hn]; exact SA.2)
  have i0 := SA.cell 0; have i1 := SA.cell 1; have i2 := SA.cell 2; have i3 := SA.cell 3; have i4 := SA.cell 4; have i5 := SA.cell 5; have i6 := SA.cell 6; have i7 := SA.cell 7; have i8 := SA.cell 8; have i9 := SA.cell 9; have i10 := SA.cell 10
  go_wp2_with fail
  refine (dsound_any vU a _ _ RA V).mono ?_; rintro e w10 ⟨rfl, B10⟩
  clear i0 i1 i2 i3 i4 i5 i6 i7 i8 i9 i10
  replace SA := SA.nx B10
  replace RA := RA.st B10
  replace V := (V.st B10).more B10.size
  have BN := BB.trans (B10.mono (Nat.le_of_lt hnw))
  clear BB B10
  have BB := BN
  clear BN
  replace hnw : n < w10.heap.size := SA.2
  cases hs : a.sound vU with
  | false =>
    have hf : Hid (z = 0) := Lib.hid (by rw [← hz.out]; unfold hashD; rw [hs]; rfl)
    clear hz hs
    go_wp2_with fail
    go_ret
    exact ⟨by rw [hf.out]; rfl, by rw [hn]; exact BB⟩
  | true =>
    have gd := Dat.sound_good hs
    have hf : Hid (hD a 14695981039346656037 = z) := Lib.hid (by rw [← hz.out]; unfold hashD; rw [if_pos hs])
    replace hs := Lib.hid hs
    have SH := SB.new w10 [.int .u64 14695981039346656037] 39
    have BH := bal w10 (.cells #[.int .u64 14695981039346656037] 39)
    have SA := SA.nx BH
    have RH := RD.step BH (Nat.le_refl _) RA
    go_upto_region 4 with fail
    obtain ⟨wh, hwh⟩ : ∃ wh, wh = w10.alloc (.cells #[.int .u64 14695981039346656037] 39) := ⟨_, rfl⟩
    rw [← hwh] at SH BH SA RH ⊢
    clear hwh
    have i0 := SA.cell 0; have i1 := SA.cell 1; have i2 := SA.cell 2; have i3 := SA.cell 3; have i4 := SA.cell 4; have i5 := SA.cell 5; have i6 := SA.cell 6; have i7 := SA.cell 7; have i8 := SA.cell 8; have i9 := SA.cell 9; have i10 := SA.cell 10
    go_wp2_with fail
    refine (hash_go _ a (Nat.le_refl _) gd _ 14695981039346656037 w10.heap.size wh RH SH (by decide)).mono ?_
    rintro e wk ⟨rfl, SK, GK⟩
    clear i0 i1 i2 i3 i4 i5 i6 i7 i8 i9 i10
    rw [hf.out] at SK
    have BK := grown_below GK (Nat.le_refl _) BH.size
    have i0 := SK.cell 0
    clear hf hz
    go_wp2_with fail
    go_ret
    exact ⟨rfl, by rw [hn]; exact (BB.trans (BH.mono (Nat.le_of_lt hnw))).trans (BK.mono (Nat.le_of_lt hnw))⟩

theorem eqD_any {a b : Dat} {va vb : Value} {w : World} (hR : RD w w.heap.size a va) (hS : RD w w.heap.size b vb) (hV : VS vU w.heap.size w) :
    Calls Tryd.prog 7 #[va, vb] w fun e w' => e = .returned (.bool (eqD vU a b)) ∧ Below w.heap.size w w' := eequal_any vU hR hS hV
theorem eqD_hash {a b : Dat} (h : eqD vU a b = true) : hashD a = hashD b := by
  unfold eqD at h
  simp only [Bool.and_eq_true, decide_eq_true_eq] at h
  rw [ord_same numOrd a b (Dat.sound_good h.1) (Dat.sound_good h.2.1) h.2.2]
set_option maxRecDepth 100000 in
set_option maxHeartbeats 16000000 in
theorem hashes_walk (a b : Dat) (va vb : Value) (w : World) (ha : RD w w.heap.size a va) (hb : RD w w.heap.size b vb) (hV : VS vU w.heap.size w) :
    Calls Tryd.prog 5 #[va, vb] w fun e w' => e = .returned (.bool true) ∧ Below w.heap.size w w' := by
  obtain ⟨X, hX⟩ : ∃ X, hashD a = X := ⟨_, rfl⟩
  obtain ⟨Y, hY⟩ : ∃ Y, hashD b = Y := ⟨_, rfl⟩
  obtain ⟨E, hE⟩ : ∃ E, eqD vU a b = E := ⟨_, rfl⟩
  have hEX : Hid (E = true → X = Y) := Lib.hid fun h => by rw [← hX, ← hY]; exact eqD_hash (hE.trans h)
  have hX0 : Hid (a.sound vU = false → X = 0) := Lib.hid fun h => by rw [← hX]; unfold hashD; rw [h]; rfl
  have cX := fun (w : World) (va : Value) h1 h2 => hash_any (a := a) (va := va) (w := w) h1 h2
  have cY := fun (w : World) (va : Value) h1 h2 => hash_any (a := b) (va := va) (w := w) h1 h2
  have cE := fun (w : World) (va vb : Value) h1 h2 h3 => eqD_any (a := a) (b := b) (va := va) (vb := vb) (w := w) h1 h2 h3
  rw [hX] at cX
  rw [hY] at cY
  rw [hE] at cE
  clear hX hY hE
  obtain ⟨la, rfl, hla, -⟩ := ha.agg
  obtain ⟨lb, rfl, hlb, -⟩ := hb.agg
  match la, hla, lb, hlb with
  | [x0, x1, x2, x3, x4, x5, x6, x7, x8, x9, x10], _, [y0, y1, y2, y3, y4, y5, y6, y7, y8, y9, y10], _ =>
  have SA := SB.new (w) [x0, x1, x2, x3, x4, x5, x6, x7, x8, x9, x10] 30
  have Ba := bal (w) (.cells #[x0, x1, x2, x3, x4, x5, x6, x7, x8, x9, x10] 30)
  have SB_ := SB.new ((w).alloc (.cells #[x0, x1, x2, x3, x4, x5, x6, x7, x8, x9, x10] 30)) [y0, y1, y2, y3, y4, y5, y6, y7, y8, y9, y10] 30
  have Bb := bal ((w).alloc (.cells #[x0, x1, x2, x3, x4, x5, x6, x7, x8, x9, x10] 30)) (.cells #[y0, y1, y2, y3, y4, y5, y6, y7, y8, y9, y10] 30)
  replace SA := SA.nx Bb
  have BB := Ba
  replace BB := bt BB Bb
  have RA := ha.st BB
  have RB_ := hb.st BB
  have V := (hV.st BB).more BB.size
  have z1_ : ((w).alloc (.cells #[x0, x1, x2, x3, x4, x5, x6, x7, x8, x9, x10] 30)).heap.size = w.heap.size + 1 := by simp
  rw [z1_] at SB_
  go_enter Tryd.func5, Tryd.ntmps5
  go_upto_region 1 with fail
  obtain ⟨W0, hW0⟩ : ∃ W0, W0 = ((w).alloc (.cells #[x0, x1, x2, x3, x4, x5, x6, x7, x8, x9, x10] 30)).alloc (.cells #[y0, y1, y2, y3, y4, y5, y6, y7, y8, y9, y10] 30) := ⟨_, rfl⟩
  rw [← hW0] at SA SB_ BB RA RB_ V ⊢
  clear hW0 Ba Bb ha hb hV z1_
  generalize hn : w.heap.size = n at *
  have hnw : n < W0.heap.size := Nat.lt_of_le_of_lt (Nat.le_of_eq hn.symm) (by rw [hn]; exact SA.2)
  go_wp2_with fail
  refine (awake10_any _ V).mono ?_; rintro e w11 ⟨rfl, B11⟩
  replace SA := SA.nx B11
  replace SB_ := SB_.nx B11
  replace RA := RA.st B11
  replace RB_ := RB_.st B11
  replace V := (V.st B11).more B11.size
  have BN := BB.trans (B11.mono (Nat.le_of_lt hnw))
  clear BB B11
  have BB := BN
  clear BN
  replace hnw : n < w11.heap.size := SA.2
  cases ha2 : a.sound vU with
  | false =>
    have hz := hX0.out ha2
    subst hz
    replace ha2 := Lib.hid ha2
    have i0 := SA.cell 0; have i1 := SA.cell 1; have i2 := SA.cell 2; have i3 := SA.cell 3; have i4 := SA.cell 4; have i5 := SA.cell 5; have i6 := SA.cell 6; have i7 := SA.cell 7; have i8 := SA.cell 8; have i9 := SA.cell 9; have i10 := SA.cell 10
    go_wp2_with fail
    have cq := rdsound_any vU a _ _ RA (RVS.of _ _)
    rw [ha2.out] at cq
    refine (cq).mono ?_; rintro e w12 ⟨rfl, B12⟩
    clear cq
    clear i0 i1 i2 i3 i4 i5 i6 i7 i8 i9 i10
    replace SA := SA.nx B12
    replace SB_ := SB_.nx B12
    replace RA := RA.st B12
    replace RB_ := RB_.st B12
    replace V := (V.st B12).more B12.size
    have BN := BB.trans (B12.mono (Nat.le_of_lt hnw))
    clear BB B12
    have BB := BN
    clear BN
    replace hnw : n < w12.heap.size := SA.2
    have i0 := SA.cell 0; have i1 := SA.cell 1; have i2 := SA.cell 2; have i3 := SA.cell 3; have i4 := SA.cell 4; have i5 := SA.cell 5; have i6 := SA.cell 6; have i7 := SA.cell 7; have i8 := SA.cell 8; have i9 := SA.cell 9; have i10 := SA.cell 10
    go_wp2_with fail
    refine (cX _ _ RA V).mono ?_; rintro e w13 ⟨rfl, B13⟩
    clear i0 i1 i2 i3 i4 i5 i6 i7 i8 i9 i10
    replace SA := SA.nx B13
    replace SB_ := SB_.nx B13
    replace RA := RA.st B13
    replace RB_ := RB_.st B13
    replace V := (V.st B13).more B13.size
    have BN := BB.trans (B13.mono (Nat.le_of_lt hnw))
    clear BB B13
    have BB := BN
    clear BN
    replace hnw : n < w13.heap.size := SA.2
    go_upto_region 3 with fail
    have D := (Below.refl w13.heap.size w13).drew
    have BD : Below n w w13.drew := bdN BB 1
    replace SA := SA.nx D
    replace SB_ := SB_.nx D
    replace RA := RA.st D
    replace RB_ := RB_.st D
    replace V := (V.st D).more D.size
    refine AnyV.regionQ 19 19 (fun w' => w'.rangeAt n 0 [x0, x1, x2, x3, x4, x5, x6, x7, x8, x9, x10] ∧ w'.rangeAt (n + 1) 0 [y0, y1, y2, y3, y4, y5, y6, y7, y8, y9, y10]) rfl (by kernel_rfl) (by kernel_rfl) (by repeat (first | refine quiet_then ?_ | refine quiet_block ?_ | exact quiet_body)) ⟨(fun j u hj => by rw [Nat.zero_add]; exact (SA.1 j u hj).1), (fun j u hj => by rw [Nat.zero_add]; exact (SB_.1 j u hj).1)⟩ (fun Q hQK hq hns hHeld => ?_)
    replace hnw : n < w13.drew.heap.size := SA.2
    clear D BB
    have BB := BD
    clear BD
    generalize w13.drew = w9 at *
    refine AnyV.next (i := 0) (v := .agg [x0, x1, x2, x3, x4, x5, x6, x7, x8, x9, x10].toArray) hq hns hHeld rfl rfl (by kernel_rfl) (yieldsIf_load_mid (by rfl) 30 (.tmp 2) rfl n 0 rfl [x0, x1, x2, x3, x4, x5, x6, x7, x8, x9, x10] _ (fun w' h => h.1) Tryd.underlying30 rfl (infoD.trans (by rfl))) ?_
    try simp only [List.setIfInBounds_toArray, List.set_cons_zero, List.set_cons_succ]
    refine AnyV.next (i := 2) (v := .agg [x0, x1, x2, x3, x4, x5, x6, x7, x8, x9, x10].toArray) hq hns hHeld rfl rfl (by kernel_rfl) (yieldsIf_load_mid (by rfl) 30 (.tmp 2) rfl n 0 rfl [x0, x1, x2, x3, x4, x5, x6, x7, x8, x9, x10] _ (fun w' h => h.1) Tryd.underlying30 rfl (infoD.trans (by rfl))) ?_
    try simp only [List.setIfInBounds_toArray, List.set_cons_zero, List.set_cons_succ]
    refine AnyV.one 1 (by kernel_rfl) rfl (fun K hK => ?_)
    go_simp
    refine (cX _ _ RA V).mono ?_; rintro e w14 ⟨rfl, B14⟩
    go_wp2_with fail
    replace SA := SA.nx B14
    replace SB_ := SB_.nx B14
    replace RA := RA.st B14
    replace RB_ := RB_.st B14
    replace V := (V.st B14).more B14.size
    have BN := BB.trans (B14.mono (Nat.le_of_lt hnw))
    clear BB B14
    have BB := BN
    clear BN
    replace hnw : n < w14.heap.size := SA.2
    refine hK.out _ _ (.inr ⟨(fun j u hj => by rw [Nat.zero_add]; exact (SA.1 j u hj).1), (fun j u hj => by rw [Nat.zero_add]; exact (SB_.1 j u hj).1)⟩) (fun hHeld => ?_)
    have hHeld := hHeld.resolve_left (by decide)
    clear hK K
    try simp only [List.setIfInBounds_toArray, List.set_cons_zero, List.set_cons_succ]
    refine AnyV.one 3 (by kernel_rfl) rfl (fun K hK => ?_)
    go_simp
    refine (cX _ _ RA V).mono ?_; rintro e w15 ⟨rfl, B15⟩
    go_wp2_with fail
    replace SA := SA.nx B15
    replace SB_ := SB_.nx B15
    replace RA := RA.st B15
    replace RB_ := RB_.st B15
    replace V := (V.st B15).more B15.size
    have BN := BB.trans (B15.mono (Nat.le_of_lt hnw))
    clear BB B15
    have BB := BN
    clear BN
    replace hnw : n < w15.heap.size := SA.2
    refine hK.out _ _ (.inr ⟨(fun j u hj => by rw [Nat.zero_add]; exact (SA.1 j u hj).1), (fun j u hj => by rw [Nat.zero_add]; exact (SB_.1 j u hj).1)⟩) (fun hHeld => ?_)
    have hHeld := hHeld.resolve_left (by decide)
    clear hK K
    try simp only [List.setIfInBounds_toArray, List.set_cons_zero, List.set_cons_succ]
    refine AnyV.next (i := 4) (v := ?_) hq hns hHeld rfl rfl (by kernel_rfl) (Or.inl ⟨by rfl, ?_⟩) ?_
    rotate_left
    · intro w' hSw; (try dsimp only at hSw); go_simp <;> with_reducible rfl
    try simp only [List.setIfInBounds_toArray, List.set_cons_zero, List.set_cons_succ]
    refine AnyV.next (i := 5) (v := ?_) hq hns hHeld rfl rfl (by kernel_rfl) (Or.inl ⟨by rfl, ?_⟩) ?_
    rotate_left
    · intro w' hSw; (try dsimp only at hSw); go_simp <;> with_reducible rfl
    try simp only [List.setIfInBounds_toArray, List.set_cons_zero, List.set_cons_succ]
    refine AnyV.next (i := 6) (v := .agg [x0, x1, x2, x3, x4, x5, x6, x7, x8, x9, x10].toArray) hq hns hHeld rfl rfl (by kernel_rfl) (yieldsIf_load_mid (by rfl) 30 (.tmp 2) rfl n 0 rfl [x0, x1, x2, x3, x4, x5, x6, x7, x8, x9, x10] _ (fun w' h => h.1) Tryd.underlying30 rfl (infoD.trans (by rfl))) ?_
    try simp only [List.setIfInBounds_toArray, List.set_cons_zero, List.set_cons_succ]
    refine AnyV.next (i := 7) (v := .agg [y0, y1, y2, y3, y4, y5, y6, y7, y8, y9, y10].toArray) hq hns hHeld rfl rfl (by kernel_rfl) (yieldsIf_load_mid (by rfl) 30 (.tmp 3) rfl (n + 1) 0 rfl [y0, y1, y2, y3, y4, y5, y6, y7, y8, y9, y10] _ (fun w' h => h.2) Tryd.underlying30 rfl (infoD.trans (by rfl))) ?_
    try simp only [List.setIfInBounds_toArray, List.set_cons_zero, List.set_cons_succ]
    refine AnyV.one 8 (by kernel_rfl) rfl (fun K hK => ?_)
    go_simp
    refine (cE _ _ _ RA RB_ V).mono ?_; rintro e w16 ⟨rfl, B16⟩
    go_wp2_with fail
    replace SA := SA.nx B16
    replace SB_ := SB_.nx B16
    replace RA := RA.st B16
    replace RB_ := RB_.st B16
    replace V := (V.st B16).more B16.size
    have BN := BB.trans (B16.mono (Nat.le_of_lt hnw))
    clear BB B16
    have BB := BN
    clear BN
    replace hnw : n < w16.heap.size := SA.2
    refine hK.out _ _ (.inr ⟨(fun j u hj => by rw [Nat.zero_add]; exact (SA.1 j u hj).1), (fun j u hj => by rw [Nat.zero_add]; exact (SB_.1 j u hj).1)⟩) (fun hHeld => ?_)
    have hHeld := hHeld.resolve_left (by decide)
    clear hK K
    try simp only [List.setIfInBounds_toArray, List.set_cons_zero, List.set_cons_succ]
    cases E with
    | false =>
      refine AnyV.next (i := 9) (v := ?_) hq hns hHeld rfl rfl (by kernel_rfl) (Or.inl ⟨by rfl, ?_⟩) ?_
      rotate_left
      · intro w' hSw; (try dsimp only at hSw); go_simp <;> with_reducible rfl
      try simp only [List.setIfInBounds_toArray, List.set_cons_zero, List.set_cons_succ]
      refine AnyV.next (i := 10) (v := ?_) hq hns hHeld rfl rfl (by kernel_rfl) (Or.inl ⟨by rfl, ?_⟩) ?_
      rotate_left
      · intro w' hSw; (try dsimp only at hSw); go_simp <;> with_reducible rfl
      try simp only [List.setIfInBounds_toArray, List.set_cons_zero, List.set_cons_succ]
      refine AnyV.next (i := 11) (v := undef) hq hns hHeld rfl rfl (by kernel_rfl) (Or.inr ⟨by kernel_rfl, rfl⟩) ?_
      try simp only [List.setIfInBounds_toArray, List.set_cons_zero, List.set_cons_succ]
      refine AnyV.next (i := 12) (v := undef) hq hns hHeld rfl rfl (by kernel_rfl) (Or.inr ⟨by kernel_rfl, rfl⟩) ?_
      try simp only [List.setIfInBounds_toArray, List.set_cons_zero, List.set_cons_succ]
      refine AnyV.next (i := 13) (v := undef) hq hns hHeld rfl rfl (by kernel_rfl) (Or.inr ⟨by kernel_rfl, rfl⟩) ?_
      try simp only [List.setIfInBounds_toArray, List.set_cons_zero, List.set_cons_succ]
      refine AnyV.next (i := 14) (v := undef) hq hns hHeld rfl rfl (by kernel_rfl) (Or.inr ⟨by kernel_rfl, rfl⟩) ?_
      try simp only [List.setIfInBounds_toArray, List.set_cons_zero, List.set_cons_succ]
      refine AnyV.next (i := 15) (v := undef) hq hns hHeld rfl rfl (by kernel_rfl) (Or.inr ⟨by kernel_rfl, rfl⟩) ?_
      try simp only [List.setIfInBounds_toArray, List.set_cons_zero, List.set_cons_succ]
      refine AnyV.next (i := 16) (v := ?_) hq hns hHeld rfl rfl (by kernel_rfl) (Or.inl ⟨by rfl, ?_⟩) ?_
      rotate_left
      · intro w' hSw; (try dsimp only at hSw); go_simp <;> with_reducible rfl
      try simp only [List.setIfInBounds_toArray, List.set_cons_zero, List.set_cons_succ]
      refine AnyV.next (i := 17) (v := ?_) hq hns hHeld rfl rfl (by kernel_rfl) (Or.inl ⟨by rfl, ?_⟩) ?_
      rotate_left
      · intro w' hSw; (try dsimp only at hSw); go_simp <;> with_reducible rfl
      try simp only [List.setIfInBounds_toArray, List.set_cons_zero, List.set_cons_succ]
      refine AnyV.one 18 (by kernel_rfl) rfl (fun K hK => ?_)
      go_simp
      refine hK.out _ _ (.inr hHeld) (fun _ => ?_)
      clear hK K
      try simp only [List.setIfInBounds_toArray, List.set_cons_zero, List.set_cons_succ]
      refine AnyV.done (by kernel_rfl) (hQK.out _ _ ?_)
      clear hQK hq hns hHeld
      go_wp2_with fail
      go_ret
      exact ⟨rfl, by rw [hn]; exact BB⟩
    | true =>
      have hxy := hEX.out rfl
      rw [← hxy] at cY
      clear hxy
      refine AnyV.next (i := 9) (v := ?_) hq hns hHeld rfl rfl (by kernel_rfl) (Or.inl ⟨by rfl, ?_⟩) ?_
      rotate_left
      · intro w' hSw; (try dsimp only at hSw); go_simp <;> with_reducible rfl
      try simp only [List.setIfInBounds_toArray, List.set_cons_zero, List.set_cons_succ]
      refine AnyV.next (i := 10) (v := ?_) hq hns hHeld rfl rfl (by kernel_rfl) (Or.inl ⟨by rfl, ?_⟩) ?_
      rotate_left
      · intro w' hSw; (try dsimp only at hSw); go_simp <;> with_reducible rfl
      try simp only [List.setIfInBounds_toArray, List.set_cons_zero, List.set_cons_succ]
      refine AnyV.next (i := 11) (v := .agg [x0, x1, x2, x3, x4, x5, x6, x7, x8, x9, x10].toArray) hq hns hHeld rfl rfl (by kernel_rfl) (yieldsIf_load_mid (by rfl) 30 (.tmp 2) rfl n 0 rfl [x0, x1, x2, x3, x4, x5, x6, x7, x8, x9, x10] _ (fun w' h => h.1) Tryd.underlying30 rfl (infoD.trans (by rfl))) ?_
      try simp only [List.setIfInBounds_toArray, List.set_cons_zero, List.set_cons_succ]
      refine AnyV.next (i := 13) (v := .agg [y0, y1, y2, y3, y4, y5, y6, y7, y8, y9, y10].toArray) hq hns hHeld rfl rfl (by kernel_rfl) (yieldsIf_load_mid (by rfl) 30 (.tmp 3) rfl (n + 1) 0 rfl [y0, y1, y2, y3, y4, y5, y6, y7, y8, y9, y10] _ (fun w' h => h.2) Tryd.underlying30 rfl (infoD.trans (by rfl))) ?_
      try simp only [List.setIfInBounds_toArray, List.set_cons_zero, List.set_cons_succ]
      refine AnyV.one 12 (by kernel_rfl) rfl (fun K hK => ?_)
      go_simp
      refine (cX _ _ RA V).mono ?_; rintro e w17 ⟨rfl, B17⟩
      go_wp2_with fail
      replace SA := SA.nx B17
      replace SB_ := SB_.nx B17
      replace RA := RA.st B17
      replace RB_ := RB_.st B17
      replace V := (V.st B17).more B17.size
      have BN := BB.trans (B17.mono (Nat.le_of_lt hnw))
      clear BB B17
      have BB := BN
      clear BN
      replace hnw : n < w17.heap.size := SA.2
      refine hK.out _ _ (.inr ⟨(fun j u hj => by rw [Nat.zero_add]; exact (SA.1 j u hj).1), (fun j u hj => by rw [Nat.zero_add]; exact (SB_.1 j u hj).1)⟩) (fun hHeld => ?_)
      have hHeld := hHeld.resolve_left (by decide)
      clear hK K
      try simp only [List.setIfInBounds_toArray, List.set_cons_zero, List.set_cons_succ]
      refine AnyV.one 14 (by kernel_rfl) rfl (fun K hK => ?_)
      go_simp
      refine (cY _ _ RB_ V).mono ?_; rintro e w18 ⟨rfl, B18⟩
      go_wp2_with fail
      replace SA := SA.nx B18
      replace SB_ := SB_.nx B18
      replace RA := RA.st B18
      replace RB_ := RB_.st B18
      replace V := (V.st B18).more B18.size
      have BN := BB.trans (B18.mono (Nat.le_of_lt hnw))
      clear BB B18
      have BB := BN
      clear BN
      replace hnw : n < w18.heap.size := SA.2
      refine hK.out _ _ (.inr ⟨(fun j u hj => by rw [Nat.zero_add]; exact (SA.1 j u hj).1), (fun j u hj => by rw [Nat.zero_add]; exact (SB_.1 j u hj).1)⟩) (fun hHeld => ?_)
      have hHeld := hHeld.resolve_left (by decide)
      clear hK K
      try simp only [List.setIfInBounds_toArray, List.set_cons_zero, List.set_cons_succ]
      refine AnyV.next (i := 15) (v := ?_) hq hns hHeld rfl rfl (by kernel_rfl) (Or.inl ⟨by rfl, ?_⟩) ?_
      rotate_left
      · intro w' hSw; (try dsimp only at hSw); go_simp <;> with_reducible rfl
      try simp only [List.setIfInBounds_toArray, List.set_cons_zero, List.set_cons_succ]
      refine AnyV.next (i := 16) (v := ?_) hq hns hHeld rfl rfl (by kernel_rfl) (Or.inl ⟨by rfl, ?_⟩) ?_
      rotate_left
      · intro w' hSw; (try dsimp only at hSw); go_simp <;> with_reducible rfl
      try simp only [List.setIfInBounds_toArray, List.set_cons_zero, List.set_cons_succ]
      refine AnyV.next (i := 17) (v := ?_) hq hns hHeld rfl rfl (by kernel_rfl) (Or.inl ⟨by rfl, ?_⟩) ?_
      rotate_left
      · intro w' hSw; (try dsimp only at hSw); go_simp <;> with_reducible rfl
      try simp only [List.setIfInBounds_toArray, List.set_cons_zero, List.set_cons_succ]
      refine AnyV.one 18 (by kernel_rfl) rfl (fun K hK => ?_)
      go_simp
      refine hK.out _ _ (.inr hHeld) (fun _ => ?_)
      clear hK K
      try simp only [List.setIfInBounds_toArray, List.set_cons_zero, List.set_cons_succ]
      refine AnyV.done (by kernel_rfl) (hQK.out _ _ ?_)
      clear hQK hq hns hHeld
      go_wp2_with fail
      go_ret
      exact ⟨rfl, by rw [hn]; exact BB⟩
  | true =>
    replace ha2 := Lib.hid ha2
    have i0 := SA.cell 0; have i1 := SA.cell 1; have i2 := SA.cell 2; have i3 := SA.cell 3; have i4 := SA.cell 4; have i5 := SA.cell 5; have i6 := SA.cell 6; have i7 := SA.cell 7; have i8 := SA.cell 8; have i9 := SA.cell 9; have i10 := SA.cell 10
    go_wp2_with fail
    have cq := rdsound_any vU a _ _ RA (RVS.of _ _)
    rw [ha2.out] at cq
    refine (cq).mono ?_; rintro e w19 ⟨rfl, B19⟩
    clear cq
    clear i0 i1 i2 i3 i4 i5 i6 i7 i8 i9 i10
    replace SA := SA.nx B19
    replace SB_ := SB_.nx B19
    replace RA := RA.st B19
    replace RB_ := RB_.st B19
    replace V := (V.st B19).more B19.size
    have BN := BB.trans (B19.mono (Nat.le_of_lt hnw))
    clear BB B19
    have BB := BN
    clear BN
    replace hnw : n < w19.heap.size := SA.2
    go_upto_region 3 with fail
    have D := (Below.refl w19.heap.size w19).drew
    have BD : Below n w w19.drew := bdN BB 1
    replace SA := SA.nx D
    replace SB_ := SB_.nx D
    replace RA := RA.st D
    replace RB_ := RB_.st D
    replace V := (V.st D).more D.size
    refine AnyV.regionQ 19 19 (fun w' => w'.rangeAt n 0 [x0, x1, x2, x3, x4, x5, x6, x7, x8, x9, x10] ∧ w'.rangeAt (n + 1) 0 [y0, y1, y2, y3, y4, y5, y6, y7, y8, y9, y10]) rfl (by kernel_rfl) (by kernel_rfl) (by repeat (first | refine quiet_then ?_ | refine quiet_block ?_ | exact quiet_body)) ⟨(fun j u hj => by rw [Nat.zero_add]; exact (SA.1 j u hj).1), (fun j u hj => by rw [Nat.zero_add]; exact (SB_.1 j u hj).1)⟩ (fun Q hQK hq hns hHeld => ?_)
    replace hnw : n < w19.drew.heap.size := SA.2
    clear D BB
    have BB := BD
    clear BD
    generalize w19.drew = w9 at *
    refine AnyV.next (i := 0) (v := .agg [x0, x1, x2, x3, x4, x5, x6, x7, x8, x9, x10].toArray) hq hns hHeld rfl rfl (by kernel_rfl) (yieldsIf_load_mid (by rfl) 30 (.tmp 2) rfl n 0 rfl [x0, x1, x2, x3, x4, x5, x6, x7, x8, x9, x10] _ (fun w' h => h.1) Tryd.underlying30 rfl (infoD.trans (by rfl))) ?_
    try simp only [List.setIfInBounds_toArray, List.set_cons_zero, List.set_cons_succ]
    refine AnyV.next (i := 2) (v := .agg [x0, x1, x2, x3, x4, x5, x6, x7, x8, x9, x10].toArray) hq hns hHeld rfl rfl (by kernel_rfl) (yieldsIf_load_mid (by rfl) 30 (.tmp 2) rfl n 0 rfl [x0, x1, x2, x3, x4, x5, x6, x7, x8, x9, x10] _ (fun w' h => h.1) Tryd.underlying30 rfl (infoD.trans (by rfl))) ?_
    try simp only [List.setIfInBounds_toArray, List.set_cons_zero, List.set_cons_succ]
    refine AnyV.one 1 (by kernel_rfl) rfl (fun K hK => ?_)
    go_simp
    refine (cX _ _ RA V).mono ?_; rintro e w20 ⟨rfl, B20⟩
    go_wp2_with fail
    replace SA := SA.nx B20
    replace SB_ := SB_.nx B20
    replace RA := RA.st B20
    replace RB_ := RB_.st B20
    replace V := (V.st B20).more B20.size
    have BN := BB.trans (B20.mono (Nat.le_of_lt hnw))
    clear BB B20
    have BB := BN
    clear BN
    replace hnw : n < w20.heap.size := SA.2
    refine hK.out _ _ (.inr ⟨(fun j u hj => by rw [Nat.zero_add]; exact (SA.1 j u hj).1), (fun j u hj => by rw [Nat.zero_add]; exact (SB_.1 j u hj).1)⟩) (fun hHeld => ?_)
    have hHeld := hHeld.resolve_left (by decide)
    clear hK K
    try simp only [List.setIfInBounds_toArray, List.set_cons_zero, List.set_cons_succ]
    refine AnyV.one 3 (by kernel_rfl) rfl (fun K hK => ?_)
    go_simp
    refine (cX _ _ RA V).mono ?_; rintro e w21 ⟨rfl, B21⟩
    go_wp2_with fail
    replace SA := SA.nx B21
    replace SB_ := SB_.nx B21
    replace RA := RA.st B21
    replace RB_ := RB_.st B21
    replace V := (V.st B21).more B21.size
    have BN := BB.trans (B21.mono (Nat.le_of_lt hnw))
    clear BB B21
    have BB := BN
    clear BN
    replace hnw : n < w21.heap.size := SA.2
    refine hK.out _ _ (.inr ⟨(fun j u hj => by rw [Nat.zero_add]; exact (SA.1 j u hj).1), (fun j u hj => by rw [Nat.zero_add]; exact (SB_.1 j u hj).1)⟩) (fun hHeld => ?_)
    have hHeld := hHeld.resolve_left (by decide)
    clear hK K
    try simp only [List.setIfInBounds_toArray, List.set_cons_zero, List.set_cons_succ]
    refine AnyV.next (i := 4) (v := ?_) hq hns hHeld rfl rfl (by kernel_rfl) (Or.inl ⟨by rfl, ?_⟩) ?_
    rotate_left
    · intro w' hSw; (try dsimp only at hSw); go_simp <;> with_reducible rfl
    try simp only [List.setIfInBounds_toArray, List.set_cons_zero, List.set_cons_succ]
    refine AnyV.next (i := 5) (v := ?_) hq hns hHeld rfl rfl (by kernel_rfl) (Or.inl ⟨by rfl, ?_⟩) ?_
    rotate_left
    · intro w' hSw; (try dsimp only at hSw); go_simp <;> with_reducible rfl
    try simp only [List.setIfInBounds_toArray, List.set_cons_zero, List.set_cons_succ]
    refine AnyV.next (i := 6) (v := .agg [x0, x1, x2, x3, x4, x5, x6, x7, x8, x9, x10].toArray) hq hns hHeld rfl rfl (by kernel_rfl) (yieldsIf_load_mid (by rfl) 30 (.tmp 2) rfl n 0 rfl [x0, x1, x2, x3, x4, x5, x6, x7, x8, x9, x10] _ (fun w' h => h.1) Tryd.underlying30 rfl (infoD.trans (by rfl))) ?_
    try simp only [List.setIfInBounds_toArray, List.set_cons_zero, List.set_cons_succ]
    refine AnyV.next (i := 7) (v := .agg [y0, y1, y2, y3, y4, y5, y6, y7, y8, y9, y10].toArray) hq hns hHeld rfl rfl (by kernel_rfl) (yieldsIf_load_mid (by rfl) 30 (.tmp 3) rfl (n + 1) 0 rfl [y0, y1, y2, y3, y4, y5, y6, y7, y8, y9, y10] _ (fun w' h => h.2) Tryd.underlying30 rfl (infoD.trans (by rfl))) ?_
    try simp only [List.setIfInBounds_toArray, List.set_cons_zero, List.set_cons_succ]
    refine AnyV.one 8 (by kernel_rfl) rfl (fun K hK => ?_)
    go_simp
    refine (cE _ _ _ RA RB_ V).mono ?_; rintro e w22 ⟨rfl, B22⟩
    go_wp2_with fail
    replace SA := SA.nx B22
    replace SB_ := SB_.nx B22
    replace RA := RA.st B22
    replace RB_ := RB_.st B22
    replace V := (V.st B22).more B22.size
    have BN := BB.trans (B22.mono (Nat.le_of_lt hnw))
    clear BB B22
    have BB := BN
    clear BN
    replace hnw : n < w22.heap.size := SA.2
    refine hK.out _ _ (.inr ⟨(fun j u hj => by rw [Nat.zero_add]; exact (SA.1 j u hj).1), (fun j u hj => by rw [Nat.zero_add]; exact (SB_.1 j u hj).1)⟩) (fun hHeld => ?_)
    have hHeld := hHeld.resolve_left (by decide)
    clear hK K
    try simp only [List.setIfInBounds_toArray, List.set_cons_zero, List.set_cons_succ]
    cases E with
    | false =>
      refine AnyV.next (i := 9) (v := ?_) hq hns hHeld rfl rfl (by kernel_rfl) (Or.inl ⟨by rfl, ?_⟩) ?_
      rotate_left
      · intro w' hSw; (try dsimp only at hSw); go_simp <;> with_reducible rfl
      try simp only [List.setIfInBounds_toArray, List.set_cons_zero, List.set_cons_succ]
      refine AnyV.next (i := 10) (v := ?_) hq hns hHeld rfl rfl (by kernel_rfl) (Or.inl ⟨by rfl, ?_⟩) ?_
      rotate_left
      · intro w' hSw; (try dsimp only at hSw); go_simp <;> with_reducible rfl
      try simp only [List.setIfInBounds_toArray, List.set_cons_zero, List.set_cons_succ]
      refine AnyV.next (i := 11) (v := undef) hq hns hHeld rfl rfl (by kernel_rfl) (Or.inr ⟨by kernel_rfl, rfl⟩) ?_
      try simp only [List.setIfInBounds_toArray, List.set_cons_zero, List.set_cons_succ]
      refine AnyV.next (i := 12) (v := undef) hq hns hHeld rfl rfl (by kernel_rfl) (Or.inr ⟨by kernel_rfl, rfl⟩) ?_
      try simp only [List.setIfInBounds_toArray, List.set_cons_zero, List.set_cons_succ]
      refine AnyV.next (i := 13) (v := undef) hq hns hHeld rfl rfl (by kernel_rfl) (Or.inr ⟨by kernel_rfl, rfl⟩) ?_
      try simp only [List.setIfInBounds_toArray, List.set_cons_zero, List.set_cons_succ]
      refine AnyV.next (i := 14) (v := undef) hq hns hHeld rfl rfl (by kernel_rfl) (Or.inr ⟨by kernel_rfl, rfl⟩) ?_
      try simp only [List.setIfInBounds_toArray, List.set_cons_zero, List.set_cons_succ]
      refine AnyV.next (i := 15) (v := undef) hq hns hHeld rfl rfl (by kernel_rfl) (Or.inr ⟨by kernel_rfl, rfl⟩) ?_
      try simp only [List.setIfInBounds_toArray, List.set_cons_zero, List.set_cons_succ]
      refine AnyV.next (i := 16) (v := ?_) hq hns hHeld rfl rfl (by kernel_rfl) (Or.inl ⟨by rfl, ?_⟩) ?_
      rotate_left
      · intro w' hSw; (try dsimp only at hSw); go_simp <;> with_reducible rfl
      try simp only [List.setIfInBounds_toArray, List.set_cons_zero, List.set_cons_succ]
      refine AnyV.next (i := 17) (v := ?_) hq hns hHeld rfl rfl (by kernel_rfl) (Or.inl ⟨by rfl, ?_⟩) ?_
      rotate_left
      · intro w' hSw; (try dsimp only at hSw); go_simp <;> with_reducible rfl
      try simp only [List.setIfInBounds_toArray, List.set_cons_zero, List.set_cons_succ]
      refine AnyV.one 18 (by kernel_rfl) rfl (fun K hK => ?_)
      go_simp
      refine hK.out _ _ (.inr hHeld) (fun _ => ?_)
      clear hK K
      try simp only [List.setIfInBounds_toArray, List.set_cons_zero, List.set_cons_succ]
      refine AnyV.done (by kernel_rfl) (hQK.out _ _ ?_)
      clear hQK hq hns hHeld
      go_wp2_with fail
      go_ret
      exact ⟨rfl, by rw [hn]; exact BB⟩
    | true =>
      have hxy := hEX.out rfl
      rw [← hxy] at cY
      clear hxy
      refine AnyV.next (i := 9) (v := ?_) hq hns hHeld rfl rfl (by kernel_rfl) (Or.inl ⟨by rfl, ?_⟩) ?_
      rotate_left
      · intro w' hSw; (try dsimp only at hSw); go_simp <;> with_reducible rfl
      try simp only [List.setIfInBounds_toArray, List.set_cons_zero, List.set_cons_succ]
      refine AnyV.next (i := 10) (v := ?_) hq hns hHeld rfl rfl (by kernel_rfl) (Or.inl ⟨by rfl, ?_⟩) ?_
      rotate_left
      · intro w' hSw; (try dsimp only at hSw); go_simp <;> with_reducible rfl
      try simp only [List.setIfInBounds_toArray, List.set_cons_zero, List.set_cons_succ]
      refine AnyV.next (i := 11) (v := .agg [x0, x1, x2, x3, x4, x5, x6, x7, x8, x9, x10].toArray) hq hns hHeld rfl rfl (by kernel_rfl) (yieldsIf_load_mid (by rfl) 30 (.tmp 2) rfl n 0 rfl [x0, x1, x2, x3, x4, x5, x6, x7, x8, x9, x10] _ (fun w' h => h.1) Tryd.underlying30 rfl (infoD.trans (by rfl))) ?_
      try simp only [List.setIfInBounds_toArray, List.set_cons_zero, List.set_cons_succ]
      refine AnyV.next (i := 13) (v := .agg [y0, y1, y2, y3, y4, y5, y6, y7, y8, y9, y10].toArray) hq hns hHeld rfl rfl (by kernel_rfl) (yieldsIf_load_mid (by rfl) 30 (.tmp 3) rfl (n + 1) 0 rfl [y0, y1, y2, y3, y4, y5, y6, y7, y8, y9, y10] _ (fun w' h => h.2) Tryd.underlying30 rfl (infoD.trans (by rfl))) ?_
      try simp only [List.setIfInBounds_toArray, List.set_cons_zero, List.set_cons_succ]
      refine AnyV.one 12 (by kernel_rfl) rfl (fun K hK => ?_)
      go_simp
      refine (cX _ _ RA V).mono ?_; rintro e w23 ⟨rfl, B23⟩
      go_wp2_with fail
      replace SA := SA.nx B23
      replace SB_ := SB_.nx B23
      replace RA := RA.st B23
      replace RB_ := RB_.st B23
      replace V := (V.st B23).more B23.size
      have BN := BB.trans (B23.mono (Nat.le_of_lt hnw))
      clear BB B23
      have BB := BN
      clear BN
      replace hnw : n < w23.heap.size := SA.2
      refine hK.out _ _ (.inr ⟨(fun j u hj => by rw [Nat.zero_add]; exact (SA.1 j u hj).1), (fun j u hj => by rw [Nat.zero_add]; exact (SB_.1 j u hj).1)⟩) (fun hHeld => ?_)
      have hHeld := hHeld.resolve_left (by decide)
      clear hK K
      try simp only [List.setIfInBounds_toArray, List.set_cons_zero, List.set_cons_succ]
      refine AnyV.one 14 (by kernel_rfl) rfl (fun K hK => ?_)
      go_simp
      refine (cY _ _ RB_ V).mono ?_; rintro e w24 ⟨rfl, B24⟩
      go_wp2_with fail
      replace SA := SA.nx B24
      replace SB_ := SB_.nx B24
      replace RA := RA.st B24
      replace RB_ := RB_.st B24
      replace V := (V.st B24).more B24.size
      have BN := BB.trans (B24.mono (Nat.le_of_lt hnw))
      clear BB B24
      have BB := BN
      clear BN
      replace hnw : n < w24.heap.size := SA.2
      refine hK.out _ _ (.inr ⟨(fun j u hj => by rw [Nat.zero_add]; exact (SA.1 j u hj).1), (fun j u hj => by rw [Nat.zero_add]; exact (SB_.1 j u hj).1)⟩) (fun hHeld => ?_)
      have hHeld := hHeld.resolve_left (by decide)
      clear hK K
      try simp only [List.setIfInBounds_toArray, List.set_cons_zero, List.set_cons_succ]
      refine AnyV.next (i := 15) (v := ?_) hq hns hHeld rfl rfl (by kernel_rfl) (Or.inl ⟨by rfl, ?_⟩) ?_
      rotate_left
      · intro w' hSw; (try dsimp only at hSw); go_simp <;> with_reducible rfl
      try simp only [List.setIfInBounds_toArray, List.set_cons_zero, List.set_cons_succ]
      refine AnyV.next (i := 16) (v := ?_) hq hns hHeld rfl rfl (by kernel_rfl) (Or.inl ⟨by rfl, ?_⟩) ?_
      rotate_left
      · intro w' hSw; (try dsimp only at hSw); go_simp <;> with_reducible rfl
      try simp only [List.setIfInBounds_toArray, List.set_cons_zero, List.set_cons_succ]
      refine AnyV.next (i := 17) (v := ?_) hq hns hHeld rfl rfl (by kernel_rfl) (Or.inl ⟨by rfl, ?_⟩) ?_
      rotate_left
      · intro w' hSw; (try dsimp only at hSw); go_simp <;> with_reducible rfl
      try simp only [List.setIfInBounds_toArray, List.set_cons_zero, List.set_cons_succ]
      refine AnyV.one 18 (by kernel_rfl) rfl (fun K hK => ?_)
      go_simp
      refine hK.out _ _ (.inr hHeld) (fun _ => ?_)
      clear hK K
      try simp only [List.setIfInBounds_toArray, List.set_cons_zero, List.set_cons_succ]
      refine AnyV.done (by kernel_rfl) (hQK.out _ _ ?_)
      clear hQK hq hns hHeld
      go_wp2_with fail
      go_ret
      exact ⟨rfl, by rw [hn]; exact BB⟩
end Go.Proofs.YtccgmeomecjihaaDoor
