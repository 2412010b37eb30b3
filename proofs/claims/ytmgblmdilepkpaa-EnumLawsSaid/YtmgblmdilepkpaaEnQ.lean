/- The walk of the law EnumLaws. -/
import Derived.Test.YtmgblmdilepkpaaEnO
namespace Go.Proofs.Ytmgblmdilepkpaa
open Go.RowKit

theorem conv_two {w : World} (t : TypeId) (x y : UInt8) :
    (convert 44 9 (.slice (some ⟨w.heap.size, 0, none⟩) 2 2)).run Try.prog (w.alloc (.cells #[.int .u8 (x.toNat : Int), .int .u8 (y.toNat : Int)] t)) = .ok (.string ⟨#[x, y]⟩) (w.alloc (.cells #[.int .u8 (x.toNat : Int), .int .u8 (y.toNat : Int)] t)) := by
  have h0 := heap_alloc_new w (.cells #[.int .u8 (x.toNat : Int), .int .u8 (y.toNat : Int)] t)
  refine run_convert_bytes_back _ 44 9 5 ⟨w.heap.size, 0, none⟩ 2 [x, y] Try.underlying44 Try.underlying5 Try.underlying9 fun j hj => ?_
  rw [Addr.add_lit, cell_of_row _ _ _ _ _ _ h0, Nat.zero_add]
  match j, hj with
  | 0, _ => rfl
  | 1, _ => rfl
theorem sym_bytes (k : Nat) (hk : k < 64) : (((97 + k % 26 : Nat) : Int)) = ((UInt8.ofNat (97 + k % 26)).toNat : Int) ∧ (((97 + k / 26 : Nat) : Int)) = ((UInt8.ofNat (97 + k / 26)).toNat : Int) := by
  rw [UInt8.toNat_ofNat_of_lt' (show 97 + k % 26 < 256 by omega), UInt8.toNat_ofNat_of_lt' (show 97 + k / 26 < 256 by omega)]
  exact ⟨rfl, rfl⟩
theorem sdB_ok {u : List Str} {i : List Bool} (ht : twB (ks u) = false) (hu : u.length ≤ 64) (hi : i.length = u.length) : sdB (ks u) i = true := by
  unfold sdB
  rw [ht, ks_length]
  simp [hi, hu]
theorem both_ok {g : Bool → Bool → Bool} {u : List Str} {i j : List Bool} (ht : twB (ks u) = false) (hu : u.length ≤ 64) (hi : i.length = u.length) (hj : j.length = u.length) : bothA g u i u j = (u, bothI g u.length i j, 0) :=
  bothA_eq (by rw [sdB_ok ht hu hi, sdB_ok ht hu hj]; rfl) rfl
theorem bI_len (g : Bool → Bool → Bool) (n : Nat) (i j : List Bool) : (bothI g n i j).length = n := by simp [bothI]
theorem bits_any' (a : Nat) (n : Nat) (w : World) (ha : a < 18446744073709551616) (hn : n ≤ 64) :
    Calls Try.prog 18 #[.int .u64 (a : Int), .int .i64 (n : Int)] w fun e w' => ∃ A c l, l.length = n ∧ e = .returned (.slice A l.length c) ∧ OBo w' w.heap.size A c l ∧ Below w.heap.size w w' :=
  (bits_any a n w ha hn).mono fun e w' ⟨A, c, l, hl, he, h1, h2⟩ => ⟨A, c, l, hl, by rw [he, hl], h1, h2⟩

set_option maxRecDepth 100000 in
set_option maxHeartbeats 32000000 in
theorem enumLaws_walk (n a b : Nat) (w : World) (hn : n < 256) (ha : a < 18446744073709551616) (hb : b < 18446744073709551616) :
    Calls Try.prog 4 #[.int .u8 (n : Int), .int .u64 (a : Int), .int .u64 (b : Int)] w fun e w' => e = .returned (.bool true) ∧ Below w.heap.size w w' := by
  obtain ⟨N, hN, hN0, hN2⟩ : ∃ N : Nat, Hid ((n : Int) % 64 + 1 = (N : Int)) ∧ 1 ≤ N ∧ N ≤ 64 := ⟨n % 64 + 1, by show _ = _; omega, by omega, by omega⟩
  have hNr := hN.out
  go_enter Try.func4, Try.ntmps4
  go_wp2_with fail
  go_loopg [7, 8] N (fun gg uv iv wr => ∃ (k : Nat) (A' : Option Addr) (c' : Nat), k ≤ N ∧ N - k = gg ∧ iv = .int .i64 (k : Int) ∧ uv = .slice A' (syms k).length c' ∧ OS wr w.heap.size A' c' (syms k) ∧ Below w.heap.size w wr)
  case atStart => exact ⟨0, _, 0, Nat.zero_le _, rfl, rfl, rfl, OS.empty w, bal _ _⟩
  case round =>
    obtain ⟨k, A', c', hk, rfl, rfl, rfl, hO, B0⟩ := hrel
    by_cases h0 : k < N
    · obtain ⟨x, y, q3, q4, q5⟩ : ∃ x y : UInt8, ((97 : Int) + (k : Int) % 26) = (x.toNat : Int) ∧ ((97 : Int) + (k : Int) / 26) = (y.toNat : Int) ∧ Hid (sym k = ⟨#[x, y]⟩) := by
        obtain ⟨q1, q2⟩ := sym_bytes k (by omega)
        exact ⟨_, _, by rw [← q1]; omega, by rw [← q2]; omega, rfl⟩
      have q6 := x.toNat_lt
      have q7 := y.toNat_lt
      have q8 := fun w' => conv_two (w := w') 5 x y
      have q9 := syms_len k
      have q10 := B0.size
      have q11 := RS.one (wr.alloc (.cells #[.int .u8 (x.toNat : Int), .int .u8 (y.toNat : Int)] 5)) 9 (⟨#[x, y]⟩ : Str)
      have q12 : (wr.alloc (.cells #[.int .u8 (x.toNat : Int), .int .u8 (y.toNat : Int)] 5)).heap.size = wr.heap.size + 1 := by simp
      rw [q12] at q11
      go_wp2_with (at_builtin; refine wp_appS _ rfl _ _ rfl w.heap.size _ _ _ (syms k) rfl rfl ((hO.alloc _).alloc _) _ _ _ [_] rfl rfl _ q11 (by rw [q9]; simp; omega) (by simp; omega) ?_; intro A2 c2 w2 g1 g2 g3)
      rw [← q5.out, ← syms_succ] at g1
      go_roundg (N - (k + 1))
      case measure => omega
      case rel => exact ⟨k + 1, A2, c2, by omega, rfl, by go_num, by rw [syms_len], g1, (bt (B0.alloc B0.size _) (bal _ _)).trans g3⟩

    · obtain rfl : k = N := by omega
      have htw := syms_tw hN2
      have hsl := syms_len k
      generalize hU : syms k = U at *
      clear hU
      have hUr := hO.rl
      clear hO
      have h64 : U.length ≤ 64 := by omega
      clear hN0 hN2 hk hsl
      have HT := Lib.hid htw
      have vn : newA U = (U, tru U, 0) := by unfold newA; rw [htw, if_neg (by simp), if_neg (by omega)]; rfl
      have tl := tru_len U
      have TL := Lib.hid tl
      have te : ((((tru U).length : Int)) == (U.length : Int)) = true := by rw [tl]; simp
      have hnew := new_any A' c' _ U wr rfl hUr
      rw [vn] at hnew
      clear vn tl htw
      go_wp2_with fail
      refine hnew.mono ?_; rintro e w1 ⟨A1, c1, D1, d1, rfl, O1, P1, B1⟩
      dsimp only at O1 P1
      have s9 := SC.new w1 (.slice A1 U.length c1) (.slice D1 (tru U).length d1) 25
      have B2 := bal w1 (.cells #[.slice A1 U.length c1, .slice D1 (tru U).length d1] 25)
      have m0 := s9.1
      have m1 := s9.2.1
      go_wp2_with fail
      refine (awake_any _).mono ?_; rintro e w3 ⟨rfl, B3⟩
      have m2 := (s9.nx B3).1
      have m3 := (s9.nx B3).2.1
      go_wp2_with fail
      refine (bits_any' a U.length _ ha h64).mono ?_; rintro e w4 ⟨Dx, dx, x, hx, rfl, Px, B4⟩
      have Hx := Lib.hid hx
      clear hx
      have sx := SC.new w4 (.slice A' U.length c') (.slice Dx x.length dx) 25
      have B5 := bal w4 (.cells #[.slice A' U.length c', .slice Dx x.length dx] 25)
      go_wp2_with fail
      refine (bits_any' b U.length _ hb h64).mono ?_; rintro e w6 ⟨Dy, dy, y, hy, rfl, Py, B6⟩
      have Hy := Lib.hid hy
      clear hy
      have sy := SC.new w6 (.slice A' U.length c') (.slice Dy y.length dy) 25
      have B7 := bal w6 (.cells #[.slice A' U.length c', .slice Dy y.length dy] 25)
      obtain ⟨iu, hiu⟩ : ∃ z, z = bothI (fun x y => x || y) U.length x y := ⟨_, rfl⟩
      have fu := fun w' x1 x2 x3 x4 => union_any A' Dx A' Dy c' dx c' dy U x U y w' x1 x2 x3 x4
      simp only [both_ok (g := (fun x y => x || y)) HT.out h64 (Hx.out) (Hy.out), ← hiu] at fu
      have lu : Hid (iu.length = U.length) := by show _ = _; rw [hiu]; exact bI_len ..
      have Eu := Lib.hid hiu
      clear hiu
      have mx7 := (sx.nx (bt B6 B7)).1
      have kx7 := (sx.nx (bt B6 B7)).2.1
      have my7 := (sy.nx (Below.refl _ _)).1
      have ky7 := (sy.nx (Below.refl _ _)).2.1
      go_wp2_with fail
      refine (fu _ (st hUr (bt (bt (bt (bt (bt (bt B1 B2) B3) B4) B5) B6) B7)) (st Px.rl (bt (bt B5 B6) B7)) (st hUr (bt (bt (bt (bt (bt (bt B1 B2) B3) B4) B5) B6) B7)) (st Py.rl B7)).mono ?_; rintro e w8 ⟨Au, cu, Du, du, rfl, Ou, Pu, B8⟩
      dsimp only at Ou Pu
      have su := SC.new w8 (.slice Au U.length cu) (.slice Du iu.length du) 25
      have B9 := bal w8 (.cells #[.slice Au U.length cu, .slice Du iu.length du] 25)
      obtain ⟨icu, hicu⟩ : ∃ z, z = bothI (fun x _ => !x) U.length iu iu := ⟨_, rfl⟩
      have fcu := fun w' x1 x2 => complement_any Au Du cu du U iu w' x1 x2
      simp only [both_ok (g := (fun x _ => !x)) HT.out h64 (lu.out) (lu.out), ← hicu] at fcu
      have lcu : Hid (icu.length = U.length) := by show _ = _; rw [hicu]; exact bI_len ..
      have Ecu := Lib.hid hicu
      clear hicu
      have mu9 := (su.nx (Below.refl _ _)).1
      have ku9 := (su.nx (Below.refl _ _)).2.1
      go_wp2_with fail
      refine (fcu _ (st Ou.rl B9) (st Pu.rl B9)).mono ?_; rintro e w10 ⟨Acu, ccu, Dcu, dcu, rfl, Ocu, Pcu, B10⟩
      dsimp only at Ocu Pcu
      have scu := SC.new w10 (.slice Acu U.length ccu) (.slice Dcu icu.length dcu) 25
      have B11 := bal w10 (.cells #[.slice Acu U.length ccu, .slice Dcu icu.length dcu] 25)
      obtain ⟨icx, hicx⟩ : ∃ z, z = bothI (fun x _ => !x) U.length x x := ⟨_, rfl⟩
      have fcx := fun w' x1 x2 => complement_any A' Dx c' dx U x w' x1 x2
      simp only [both_ok (g := (fun x _ => !x)) HT.out h64 (Hx.out) (Hx.out), ← hicx] at fcx
      have lcx : Hid (icx.length = U.length) := by show _ = _; rw [hicx]; exact bI_len ..
      have Ecx := Lib.hid hicx
      clear hicx
      have mx11 := (sx.nx (bt (bt (bt (bt (bt B6 B7) B8) B9) B10) B11)).1
      have kx11 := (sx.nx (bt (bt (bt (bt (bt B6 B7) B8) B9) B10) B11)).2.1
      go_wp2_with fail
      refine (fcx _ (st hUr (bt (bt (bt (bt (bt (bt (bt (bt (bt (bt B1 B2) B3) B4) B5) B6) B7) B8) B9) B10) B11)) (st Px.rl (bt (bt (bt (bt (bt (bt B5 B6) B7) B8) B9) B10) B11))).mono ?_; rintro e w12 ⟨Acx, ccx, Dcx, dcx, rfl, Ocx, Pcx, B12⟩
      dsimp only at Ocx Pcx
      have scx := SC.new w12 (.slice Acx U.length ccx) (.slice Dcx icx.length dcx) 25
      have B13 := bal w12 (.cells #[.slice Acx U.length ccx, .slice Dcx icx.length dcx] 25)
      obtain ⟨icy, hicy⟩ : ∃ z, z = bothI (fun x _ => !x) U.length y y := ⟨_, rfl⟩
      have fcy := fun w' x1 x2 => complement_any A' Dy c' dy U y w' x1 x2
      simp only [both_ok (g := (fun x _ => !x)) HT.out h64 (Hy.out) (Hy.out), ← hicy] at fcy
      have lcy : Hid (icy.length = U.length) := by show _ = _; rw [hicy]; exact bI_len ..
      have Ecy := Lib.hid hicy
      clear hicy
      have my13 := (sy.nx (bt (bt (bt (bt (bt B8 B9) B10) B11) B12) B13)).1
      have ky13 := (sy.nx (bt (bt (bt (bt (bt B8 B9) B10) B11) B12) B13)).2.1
      go_wp2_with fail
      refine (fcy _ (st hUr (bt (bt (bt (bt (bt (bt (bt (bt (bt (bt (bt (bt B1 B2) B3) B4) B5) B6) B7) B8) B9) B10) B11) B12) B13)) (st Py.rl (bt (bt (bt (bt (bt (bt B7 B8) B9) B10) B11) B12) B13))).mono ?_; rintro e w14 ⟨Acy, ccy, Dcy, dcy, rfl, Ocy, Pcy, B14⟩
      dsimp only at Ocy Pcy
      have scy := SC.new w14 (.slice Acy U.length ccy) (.slice Dcy icy.length dcy) 25
      have B15 := bal w14 (.cells #[.slice Acy U.length ccy, .slice Dcy icy.length dcy] 25)
      obtain ⟨im, him⟩ : ∃ z, z = bothI (fun x y => x && y) U.length icx icy := ⟨_, rfl⟩
      have fm := fun w' x1 x2 x3 x4 => meet_any Acx Dcx Acy Dcy ccx dcx ccy dcy U icx U icy w' x1 x2 x3 x4
      simp only [both_ok (g := (fun x y => x && y)) HT.out h64 (lcx.out) (lcy.out), ← him] at fm
      have lm : Hid (im.length = U.length) := by show _ = _; rw [him]; exact bI_len ..
      have Em := Lib.hid him
      clear him
      have mcx15 := (scx.nx (bt B14 B15)).1
      have kcx15 := (scx.nx (bt B14 B15)).2.1
      have mcy15 := (scy.nx (Below.refl _ _)).1
      have kcy15 := (scy.nx (Below.refl _ _)).2.1
      go_wp2_with fail
      refine (fm _ (st Ocx.rl (bt (bt B13 B14) B15)) (st Pcx.rl (bt (bt B13 B14) B15)) (st Ocy.rl B15) (st Pcy.rl B15)).mono ?_; rintro e w16 ⟨Am, cm, Dm, dm, rfl, Om, Pm, B16⟩
      dsimp only at Om Pm
      have sm := SC.new w16 (.slice Am U.length cm) (.slice Dm im.length dm) 25
      have B17 := bal w16 (.cells #[.slice Am U.length cm, .slice Dm im.length dm] 25)
      obtain ⟨ial, hial⟩ : ∃ z, z = bothI (fun x y => x || y) U.length x icx := ⟨_, rfl⟩
      have fal := fun w' x1 x2 x3 x4 => union_any A' Dx Acx Dcx c' dx ccx dcx U x U icx w' x1 x2 x3 x4
      simp only [both_ok (g := (fun x y => x || y)) HT.out h64 (Hx.out) (lcx.out), ← hial] at fal
      have lal : Hid (ial.length = U.length) := by show _ = _; rw [hial]; exact bI_len ..
      have Eal := Lib.hid hial
      clear hial
      have mx17 := (sx.nx (bt (bt (bt (bt (bt (bt (bt (bt (bt (bt (bt B6 B7) B8) B9) B10) B11) B12) B13) B14) B15) B16) B17)).1
      have kx17 := (sx.nx (bt (bt (bt (bt (bt (bt (bt (bt (bt (bt (bt B6 B7) B8) B9) B10) B11) B12) B13) B14) B15) B16) B17)).2.1
      have mcx17 := (scx.nx (bt (bt (bt B14 B15) B16) B17)).1
      have kcx17 := (scx.nx (bt (bt (bt B14 B15) B16) B17)).2.1
      go_wp2_with fail
      refine (fal _ (st hUr (bt (bt (bt (bt (bt (bt (bt (bt (bt (bt (bt (bt (bt (bt (bt (bt B1 B2) B3) B4) B5) B6) B7) B8) B9) B10) B11) B12) B13) B14) B15) B16) B17)) (st Px.rl (bt (bt (bt (bt (bt (bt (bt (bt (bt (bt (bt (bt B5 B6) B7) B8) B9) B10) B11) B12) B13) B14) B15) B16) B17)) (st Ocx.rl (bt (bt (bt (bt B13 B14) B15) B16) B17)) (st Pcx.rl (bt (bt (bt (bt B13 B14) B15) B16) B17))).mono ?_; rintro e w18 ⟨Aal, cal, Dal, dal, rfl, Oal, Pal, B18⟩
      dsimp only at Oal Pal
      have sal := SC.new w18 (.slice Aal U.length cal) (.slice Dal ial.length dal) 25
      have B19 := bal w18 (.cells #[.slice Aal U.length cal, .slice Dal ial.length dal] 25)
      obtain ⟨ino, hino⟩ : ∃ z, z = bothI (fun x y => x && y) U.length x icx := ⟨_, rfl⟩
      have fno := fun w' x1 x2 x3 x4 => meet_any A' Dx Acx Dcx c' dx ccx dcx U x U icx w' x1 x2 x3 x4
      simp only [both_ok (g := (fun x y => x && y)) HT.out h64 (Hx.out) (lcx.out), ← hino] at fno
      have lno : Hid (ino.length = U.length) := by show _ = _; rw [hino]; exact bI_len ..
      have Eno := Lib.hid hino
      clear hino
      have mx19 := (sx.nx (bt (bt (bt (bt (bt (bt (bt (bt (bt (bt (bt (bt (bt B6 B7) B8) B9) B10) B11) B12) B13) B14) B15) B16) B17) B18) B19)).1
      have kx19 := (sx.nx (bt (bt (bt (bt (bt (bt (bt (bt (bt (bt (bt (bt (bt B6 B7) B8) B9) B10) B11) B12) B13) B14) B15) B16) B17) B18) B19)).2.1
      have mcx19 := (scx.nx (bt (bt (bt (bt (bt B14 B15) B16) B17) B18) B19)).1
      have kcx19 := (scx.nx (bt (bt (bt (bt (bt B14 B15) B16) B17) B18) B19)).2.1
      go_wp2_with fail
      refine (fno _ (st hUr (bt (bt (bt (bt (bt (bt (bt (bt (bt (bt (bt (bt (bt (bt (bt (bt (bt (bt B1 B2) B3) B4) B5) B6) B7) B8) B9) B10) B11) B12) B13) B14) B15) B16) B17) B18) B19)) (st Px.rl (bt (bt (bt (bt (bt (bt (bt (bt (bt (bt (bt (bt (bt (bt B5 B6) B7) B8) B9) B10) B11) B12) B13) B14) B15) B16) B17) B18) B19)) (st Ocx.rl (bt (bt (bt (bt (bt (bt B13 B14) B15) B16) B17) B18) B19)) (st Pcx.rl (bt (bt (bt (bt (bt (bt B13 B14) B15) B16) B17) B18) B19))).mono ?_; rintro e w20 ⟨Ano, cno, Dno, dno, rfl, Ono, Pno, B20⟩
      dsimp only at Ono Pno
      have sno := SC.new w20 (.slice Ano U.length cno) (.slice Dno ino.length dno) 25
      have B21 := bal w20 (.cells #[.slice Ano U.length cno, .slice Dno ino.length dno] 25)
      obtain ⟨idf, hidf⟩ : ∃ z, z = bothI (fun x y => x && !y) U.length x y := ⟨_, rfl⟩
      have fdf := fun w' x1 x2 x3 x4 => minus_any A' Dx A' Dy c' dx c' dy U x U y w' x1 x2 x3 x4
      simp only [both_ok (g := (fun x y => x && !y)) HT.out h64 (Hx.out) (Hy.out), ← hidf] at fdf
      have ldf : Hid (idf.length = U.length) := by show _ = _; rw [hidf]; exact bI_len ..
      have Edf := Lib.hid hidf
      clear hidf
      have mx21 := (sx.nx (bt (bt (bt (bt (bt (bt (bt (bt (bt (bt (bt (bt (bt (bt (bt B6 B7) B8) B9) B10) B11) B12) B13) B14) B15) B16) B17) B18) B19) B20) B21)).1
      have kx21 := (sx.nx (bt (bt (bt (bt (bt (bt (bt (bt (bt (bt (bt (bt (bt (bt (bt B6 B7) B8) B9) B10) B11) B12) B13) B14) B15) B16) B17) B18) B19) B20) B21)).2.1
      have my21 := (sy.nx (bt (bt (bt (bt (bt (bt (bt (bt (bt (bt (bt (bt (bt B8 B9) B10) B11) B12) B13) B14) B15) B16) B17) B18) B19) B20) B21)).1
      have ky21 := (sy.nx (bt (bt (bt (bt (bt (bt (bt (bt (bt (bt (bt (bt (bt B8 B9) B10) B11) B12) B13) B14) B15) B16) B17) B18) B19) B20) B21)).2.1
      go_wp2_with fail
      refine (fdf _ (st hUr (bt (bt (bt (bt (bt (bt (bt (bt (bt (bt (bt (bt (bt (bt (bt (bt (bt (bt (bt (bt B1 B2) B3) B4) B5) B6) B7) B8) B9) B10) B11) B12) B13) B14) B15) B16) B17) B18) B19) B20) B21)) (st Px.rl (bt (bt (bt (bt (bt (bt (bt (bt (bt (bt (bt (bt (bt (bt (bt (bt B5 B6) B7) B8) B9) B10) B11) B12) B13) B14) B15) B16) B17) B18) B19) B20) B21)) (st hUr (bt (bt (bt (bt (bt (bt (bt (bt (bt (bt (bt (bt (bt (bt (bt (bt (bt (bt (bt (bt B1 B2) B3) B4) B5) B6) B7) B8) B9) B10) B11) B12) B13) B14) B15) B16) B17) B18) B19) B20) B21)) (st Py.rl (bt (bt (bt (bt (bt (bt (bt (bt (bt (bt (bt (bt (bt (bt B7 B8) B9) B10) B11) B12) B13) B14) B15) B16) B17) B18) B19) B20) B21))).mono ?_; rintro e w22 ⟨Adf, cdf, Ddf, ddf, rfl, Odf, Pdf, B22⟩
      dsimp only at Odf Pdf
      have sdf := SC.new w22 (.slice Adf U.length cdf) (.slice Ddf idf.length ddf) 25
      have B23 := bal w22 (.cells #[.slice Adf U.length cdf, .slice Ddf idf.length ddf] 25)
      have hsub := law_sub (u := U) (x := x) (y := y) HT.out
      rw [← Edf.out] at hsub
      have fS := fun w' x1 x2 x3 x4 => subset_any A' Dx A' Dy c' dx c' dy U x U y w' x1 x2 x3 x4
      have vS : subA U x U y = (subB (ks U) x (ks U) y, 0) := by unfold subA; rw [sdB_ok HT.out h64 Hx.out, sdB_ok HT.out h64 Hy.out]; rfl
      simp only [vS, hsub] at fS
      clear vS hsub
      have mx23 := (sx.nx (bt (bt (bt (bt (bt (bt (bt (bt (bt (bt (bt (bt (bt (bt (bt (bt (bt B6 B7) B8) B9) B10) B11) B12) B13) B14) B15) B16) B17) B18) B19) B20) B21) B22) B23)).1
      have kx23 := (sx.nx (bt (bt (bt (bt (bt (bt (bt (bt (bt (bt (bt (bt (bt (bt (bt (bt (bt B6 B7) B8) B9) B10) B11) B12) B13) B14) B15) B16) B17) B18) B19) B20) B21) B22) B23)).2.1
      have my23 := (sy.nx (bt (bt (bt (bt (bt (bt (bt (bt (bt (bt (bt (bt (bt (bt (bt B8 B9) B10) B11) B12) B13) B14) B15) B16) B17) B18) B19) B20) B21) B22) B23)).1
      have ky23 := (sy.nx (bt (bt (bt (bt (bt (bt (bt (bt (bt (bt (bt (bt (bt (bt (bt B8 B9) B10) B11) B12) B13) B14) B15) B16) B17) B18) B19) B20) B21) B22) B23)).2.1
      go_wp2_with fail
      refine (fS _ (st hUr (bt (bt (bt (bt (bt (bt (bt (bt (bt (bt (bt (bt (bt (bt (bt (bt (bt (bt (bt (bt (bt (bt B1 B2) B3) B4) B5) B6) B7) B8) B9) B10) B11) B12) B13) B14) B15) B16) B17) B18) B19) B20) B21) B22) B23)) (st Px.rl (bt (bt (bt (bt (bt (bt (bt (bt (bt (bt (bt (bt (bt (bt (bt (bt (bt (bt B5 B6) B7) B8) B9) B10) B11) B12) B13) B14) B15) B16) B17) B18) B19) B20) B21) B22) B23)) (st hUr (bt (bt (bt (bt (bt (bt (bt (bt (bt (bt (bt (bt (bt (bt (bt (bt (bt (bt (bt (bt (bt (bt B1 B2) B3) B4) B5) B6) B7) B8) B9) B10) B11) B12) B13) B14) B15) B16) B17) B18) B19) B20) B21) B22) B23)) (st Py.rl (bt (bt (bt (bt (bt (bt (bt (bt (bt (bt (bt (bt (bt (bt (bt (bt B7 B8) B9) B10) B11) B12) B13) B14) B15) B16) B17) B18) B19) B20) B21) B22) B23))).mono ?_; rintro e w24 ⟨rfl, B24⟩
      have fno' := fun w' x1 x2 => list_any Ano Dno cno dno U ino w' x1 x2
      have vno' : listA U ino = (msel U ino, 0) := by unfold listA; rw [sdB_ok HT.out h64 lno.out]; rfl
      simp only [vno'] at fno'
      clear vno'
      have hnone : msel U ino = [] := by rw [Eno.out, Ecx.out]; exact law_none ..
      simp only [hnone] at fno'
      clear hnone
      have mno24 := (sno.nx (bt (bt B22 B23) B24)).1
      have kno24 := (sno.nx (bt (bt B22 B23) B24)).2.1
      go_wp2_with fail
      refine (fno' _ (st Ono.rl (bt (bt (bt B21 B22) B23) B24)) (st Pno.rl (bt (bt (bt B21 B22) B23) B24))).mono ?_; rintro e w25 ⟨ALno, cLno, rfl, OLno, B25⟩
      have fdf' := fun w' x1 x2 => list_any Adf Ddf cdf ddf U idf w' x1 x2
      have vdf' : listA U idf = (msel U idf, 0) := by unfold listA; rw [sdB_ok HT.out h64 ldf.out]; rfl
      simp only [vdf'] at fdf'
      clear vdf'
      have mdf25 := (sdf.nx (bt B24 B25)).1
      have kdf25 := (sdf.nx (bt B24 B25)).2.1
      go_wp2_with fail
      refine (fdf' _ (st Odf.rl (bt (bt B23 B24) B25)) (st Pdf.rl (bt (bt B23 B24) B25))).mono ?_; rintro e w26 ⟨ALdf, cLdf, rfl, OLdf, B26⟩
      have hlaw1 : msel (ks U) icu = msel (ks U) im := by rw [Ecu.out, Eu.out, Em.out, Ecx.out, Ecy.out, law_neither]
      have hlaw2 : msel (ks U) ial = msel (ks U) (tru U) := by rw [Eal.out, Ecx.out, law_all U.length x U rfl]
      have HW1 := Lib.hid hlaw1
      have HW2 := Lib.hid hlaw2
      clear hlaw1 hlaw2
      have mcu26 := (scu.nx (bt (bt (bt (bt (bt (bt (bt (bt (bt (bt (bt (bt (bt (bt B12 B13) B14) B15) B16) B17) B18) B19) B20) B21) B22) B23) B24) B25) B26)).1
      have kcu26 := (scu.nx (bt (bt (bt (bt (bt (bt (bt (bt (bt (bt (bt (bt (bt (bt B12 B13) B14) B15) B16) B17) B18) B19) B20) B21) B22) B23) B24) B25) B26)).2.1
      have mm26 := (sm.nx (bt (bt (bt (bt (bt (bt (bt (bt B18 B19) B20) B21) B22) B23) B24) B25) B26)).1
      have km26 := (sm.nx (bt (bt (bt (bt (bt (bt (bt (bt B18 B19) B20) B21) B22) B23) B24) B25) B26)).2.1
      by_cases hz : (msel U idf).length = 0
      · have t1 : (((msel U idf).length : Int) == 0) = true := by rw [hz]; rfl
        have t2 : decide ((msel U idf).length = 0) = true := by simp [hz]
        have HZ : Hid (decide (msel U idf = []) = true) := decide_eq_true (List.length_eq_zero_iff.1 hz)
        clear hz
        go_wp2_with fail
        refine (lsame_any Acu Dcu Am Dm ccu dcu cm dm _ _ _ _ U icu U im _ rfl rfl rfl rfl (lcu.out) (lm.out) (by omega) rfl HW1.out (st Ocu.rl (bt (bt (bt (bt (bt (bt (bt (bt (bt (bt (bt (bt (bt (bt (bt B11 B12) B13) B14) B15) B16) B17) B18) B19) B20) B21) B22) B23) B24) B25) B26)) (st Pcu.rl (bt (bt (bt (bt (bt (bt (bt (bt (bt (bt (bt (bt (bt (bt (bt B11 B12) B13) B14) B15) B16) B17) B18) B19) B20) B21) B22) B23) B24) B25) B26)) (st Om.rl (bt (bt (bt (bt (bt (bt (bt (bt (bt B17 B18) B19) B20) B21) B22) B23) B24) B25) B26)) (st Pm.rl (bt (bt (bt (bt (bt (bt (bt (bt (bt B17 B18) B19) B20) B21) B22) B23) B24) B25) B26))).mono ?_; rintro e w27 ⟨rfl, B27⟩
        have mal27 := (sal.nx (bt (bt (bt (bt (bt (bt (bt B20 B21) B22) B23) B24) B25) B26) B27)).1
        have kal27 := (sal.nx (bt (bt (bt (bt (bt (bt (bt B20 B21) B22) B23) B24) B25) B26) B27)).2.1
        have ms27 := (s9.nx (bt (bt (bt (bt (bt (bt (bt (bt (bt (bt (bt (bt (bt (bt (bt (bt (bt (bt (bt (bt (bt (bt (bt (bt B3 B4) B5) B6) B7) B8) B9) B10) B11) B12) B13) B14) B15) B16) B17) B18) B19) B20) B21) B22) B23) B24) B25) B26) B27)).1
        have ks27 := (s9.nx (bt (bt (bt (bt (bt (bt (bt (bt (bt (bt (bt (bt (bt (bt (bt (bt (bt (bt (bt (bt (bt (bt (bt (bt B3 B4) B5) B6) B7) B8) B9) B10) B11) B12) B13) B14) B15) B16) B17) B18) B19) B20) B21) B22) B23) B24) B25) B26) B27)).2.1
        go_wp2_with fail
        refine (lsame_any Aal Dal A1 D1 cal dal c1 d1 _ _ _ _ U ial U (tru U) _ rfl rfl rfl rfl (lal.out) (TL.out) (by omega) rfl HW2.out (st Oal.rl (bt (bt (bt (bt (bt (bt (bt (bt B19 B20) B21) B22) B23) B24) B25) B26) B27)) (st Pal.rl (bt (bt (bt (bt (bt (bt (bt (bt B19 B20) B21) B22) B23) B24) B25) B26) B27)) (st O1.rl (bt (bt (bt (bt (bt (bt (bt (bt (bt (bt (bt (bt (bt (bt (bt (bt (bt (bt (bt (bt (bt (bt (bt (bt (bt B2 B3) B4) B5) B6) B7) B8) B9) B10) B11) B12) B13) B14) B15) B16) B17) B18) B19) B20) B21) B22) B23) B24) B25) B26) B27)) (st P1.rl (bt (bt (bt (bt (bt (bt (bt (bt (bt (bt (bt (bt (bt (bt (bt (bt (bt (bt (bt (bt (bt (bt (bt (bt (bt B2 B3) B4) B5) B6) B7) B8) B9) B10) B11) B12) B13) B14) B15) B16) B17) B18) B19) B20) B21) B22) B23) B24) B25) B26) B27))).mono ?_; rintro e w28 ⟨rfl, B28⟩
        go_wp2_with fail
        go_ret
        exact ⟨by simp only [HZ.out]; rfl, B0.trans ((bt (bt (bt (bt (bt (bt (bt (bt (bt (bt (bt (bt (bt (bt (bt (bt (bt (bt (bt (bt (bt (bt (bt (bt (bt (bt (bt B1 B2) B3) B4) B5) B6) B7) B8) B9) B10) B11) B12) B13) B14) B15) B16) B17) B18) B19) B20) B21) B22) B23) B24) B25) B26) B27) B28).mono B0.size)⟩
      · have t1 : (((msel U idf).length : Int) == 0) = false := beq_eq_false_iff_ne.2 (by omega)
        have t2 : decide ((msel U idf).length = 0) = false := by simp [hz]
        have HZ : Hid (decide (msel U idf = []) = false) := decide_eq_false (fun h => hz (by rw [h]; rfl))
        clear hz
        go_wp2_with fail
        refine (lsame_any Acu Dcu Am Dm ccu dcu cm dm _ _ _ _ U icu U im _ rfl rfl rfl rfl (lcu.out) (lm.out) (by omega) rfl HW1.out (st Ocu.rl (bt (bt (bt (bt (bt (bt (bt (bt (bt (bt (bt (bt (bt (bt (bt B11 B12) B13) B14) B15) B16) B17) B18) B19) B20) B21) B22) B23) B24) B25) B26)) (st Pcu.rl (bt (bt (bt (bt (bt (bt (bt (bt (bt (bt (bt (bt (bt (bt (bt B11 B12) B13) B14) B15) B16) B17) B18) B19) B20) B21) B22) B23) B24) B25) B26)) (st Om.rl (bt (bt (bt (bt (bt (bt (bt (bt (bt B17 B18) B19) B20) B21) B22) B23) B24) B25) B26)) (st Pm.rl (bt (bt (bt (bt (bt (bt (bt (bt (bt B17 B18) B19) B20) B21) B22) B23) B24) B25) B26))).mono ?_; rintro e w27 ⟨rfl, B27⟩
        have mal27 := (sal.nx (bt (bt (bt (bt (bt (bt (bt B20 B21) B22) B23) B24) B25) B26) B27)).1
        have kal27 := (sal.nx (bt (bt (bt (bt (bt (bt (bt B20 B21) B22) B23) B24) B25) B26) B27)).2.1
        have ms27 := (s9.nx (bt (bt (bt (bt (bt (bt (bt (bt (bt (bt (bt (bt (bt (bt (bt (bt (bt (bt (bt (bt (bt (bt (bt (bt B3 B4) B5) B6) B7) B8) B9) B10) B11) B12) B13) B14) B15) B16) B17) B18) B19) B20) B21) B22) B23) B24) B25) B26) B27)).1
        have ks27 := (s9.nx (bt (bt (bt (bt (bt (bt (bt (bt (bt (bt (bt (bt (bt (bt (bt (bt (bt (bt (bt (bt (bt (bt (bt (bt B3 B4) B5) B6) B7) B8) B9) B10) B11) B12) B13) B14) B15) B16) B17) B18) B19) B20) B21) B22) B23) B24) B25) B26) B27)).2.1
        go_wp2_with fail
        refine (lsame_any Aal Dal A1 D1 cal dal c1 d1 _ _ _ _ U ial U (tru U) _ rfl rfl rfl rfl (lal.out) (TL.out) (by omega) rfl HW2.out (st Oal.rl (bt (bt (bt (bt (bt (bt (bt (bt B19 B20) B21) B22) B23) B24) B25) B26) B27)) (st Pal.rl (bt (bt (bt (bt (bt (bt (bt (bt B19 B20) B21) B22) B23) B24) B25) B26) B27)) (st O1.rl (bt (bt (bt (bt (bt (bt (bt (bt (bt (bt (bt (bt (bt (bt (bt (bt (bt (bt (bt (bt (bt (bt (bt (bt (bt B2 B3) B4) B5) B6) B7) B8) B9) B10) B11) B12) B13) B14) B15) B16) B17) B18) B19) B20) B21) B22) B23) B24) B25) B26) B27)) (st P1.rl (bt (bt (bt (bt (bt (bt (bt (bt (bt (bt (bt (bt (bt (bt (bt (bt (bt (bt (bt (bt (bt (bt (bt (bt (bt B2 B3) B4) B5) B6) B7) B8) B9) B10) B11) B12) B13) B14) B15) B16) B17) B18) B19) B20) B21) B22) B23) B24) B25) B26) B27))).mono ?_; rintro e w28 ⟨rfl, B28⟩
        go_wp2_with fail
        go_ret
        exact ⟨by simp only [HZ.out]; rfl, B0.trans ((bt (bt (bt (bt (bt (bt (bt (bt (bt (bt (bt (bt (bt (bt (bt (bt (bt (bt (bt (bt (bt (bt (bt (bt (bt (bt (bt B1 B2) B3) B4) B5) B6) B7) B8) B9) B10) B11) B12) B13) B14) B15) B16) B17) B18) B19) B20) B21) B22) B23) B24) B25) B26) B27) B28).mono B0.size)⟩

theorem enumLaws_int (n a b : Int) (w : World) (hn : 0 ≤ n ∧ n ≤ 255) (ha : 0 ≤ a ∧ a ≤ 18446744073709551615) (hb : 0 ≤ b ∧ b ≤ 18446744073709551615) :
    Calls Try.prog 4 #[.int .u8 n, .int .u64 a, .int .u64 b] w fun e w' => e = .returned (.bool true) ∧ Below w.heap.size w w' := by
  obtain ⟨k, rfl⟩ := Int.eq_ofNat_of_zero_le hn.1
  obtain ⟨x, rfl⟩ := Int.eq_ofNat_of_zero_le ha.1
  obtain ⟨y, rfl⟩ := Int.eq_ofNat_of_zero_le hb.1
  exact enumLaws_walk k x y w (by omega) (by omega) (by omega)
end Go.Proofs.Ytmgblmdilepkpaa
