/- The walk of the law EnumMade. -/
import Derived.Test.YtmgblmdilepkpaaEnG
namespace Go.Proofs.Ytmgblmdilepkpaa
open Go.RowKit

theorem allB_step {u l : List K} {k : Nat} {y : K} (hy : l[k]? = some y) : allB u (l.take (k + 1)) = (allB u (l.take k) && decide (y ∈ u)) := by
  unfold allB
  rw [take_succ_of hy, Bool.eq_iff_iff, Bool.and_eq_true, decide_eq_true_eq, decide_eq_true_eq, decide_eq_true_eq]
  constructor
  · intro h
    exact ⟨fun x hx => h x (List.mem_append_left _ hx), h y (List.mem_append_right _ (by simp))⟩
  · rintro ⟨h1, h2⟩ x hx
    rw [List.mem_append, List.mem_singleton] at hx
    rcases hx with hx | rfl
    · exact h1 x hx
    · exact h2
theorem allB_all {u l : List K} {k : Nat} (h : l.length ≤ k) : allB u (l.take k) = allB u l := by rw [List.take_of_length_le h]
theorem ofI_get {u l : List K} {k : Nat} {y : K} (h : u[k]? = some y) : (ofI u l)[k]? = some (decide (y ∈ l)) := by
  unfold ofI
  obtain ⟨hk, he⟩ := List.getElem?_eq_some_iff.1 h
  rw [List.getElem?_map, List.getElem?_range hk]
  simp only [Option.map_some]
  rw [List.getD_eq_getElem?_getD, h]; rfl
theorem ofI_len (u l : List K) : (ofI u l).length = u.length := by simp [ofI]

set_option maxRecDepth 100000 in
set_option maxHeartbeats 16000000 in
theorem enumMade_walk (A : Option Addr) (c : Nat) (u : List Str) (D : Option Addr) (d : Nat) (i : List Bool) (E : Option Addr) (e0 : Nat) (l : List Str) (s : ByteArray) (w : World)
    (hu : RS w w.heap.size A c u) (hi : RBo w w.heap.size D d i) (hl : RS w w.heap.size E e0 l) (_hs : s.size ≤ 140737488351232) :
    Calls Try.prog 3 #[.slice A u.length c, .slice D i.length d, .slice E l.length e0, .string s] w fun e w' => e = .returned (.bool true) ∧ Below w.heap.size w w' := by
  have hbu : u.length ≤ 140737488351232 := hu.big
  have hbi : i.length ≤ 140737488351232 := hi.big
  have hbl : l.length ≤ 140737488351232 := hl.big
  have s0 := SC.new w (.slice A u.length c) (.slice D i.length d) 25
  have B1 := bal w (.cells #[.slice A u.length c, .slice D i.length d] 25)
  have hrs := rsound_any A D c d _ _ u i _ rfl rfl (st hu B1) (st hi B1)
  have hnew := new_any A c _ u _ rfl (st hu B1)
  have hof := fun w' x y z => of_any A D c d u i E e0 l w' x y z
  have hli := fun w' x y => list_any A D c d u i w' x y
  have hix := fun w' x y => eindex_any A D c d u i s w' x y
  have hsd := fun w' x y => sound_any A D c d u i w' x y
  have htw := fun w' x => rtwice_any A c _ u w' rfl x
  have m1 := s0.1
  have m2 := s0.2.1
  cases ht : twB (ks u) with
  | true =>
    have hno : sdB (ks u) i = false := by unfold sdB; rw [ht]; simp
    have vn : newA u = ([], [], 8) := by unfold newA; rw [ht]; rfl
    have vo : ofA u i l = ([], [], 2) := by unfold ofA; rw [hno]; rfl
    have vl : listA u i = ([], 2) := by unfold listA; rw [hno]; rfl
    have vi : indexA u i s = (0, 2) := by unfold indexA; rw [hno]; rfl
    rw [hno] at hrs
    rw [vn] at hnew
    simp only [vo] at hof
    simp only [vl] at hli
    simp only [vi] at hix
    simp only [hno] at hsd
    simp only [ht] at htw
    clear hno vn vo vl vi ht
    go_enter Try.func3, Try.ntmps3
    go_wp2_with fail
    refine (hrs).mono ?_; rintro e w' ⟨rfl, rfl⟩
    go_wp2_with fail
    refine (hnew).mono ?_; rintro e w2 ⟨A2, c2, D2, d2, rfl, O2, P2, B2⟩
    have s2 := (s0.nx B2).alloc (.cells #[.slice A2 0 c2, .slice D2 0 d2] 25)
    have n2 := SC.new w2 (.slice A2 0 c2) (.slice D2 0 d2) 25
    have b2 := bal w2 (.cells #[.slice A2 0 c2, .slice D2 0 d2] 25)
    have C2 := bt (bt B1 B2) b2
    have m3 := s2.1
    have m4 := s2.2.1
    go_wp2_with fail
    refine (hof _ (st hu C2) (st hi C2) (st hl C2)).mono ?_; rintro e w3 ⟨A3, c3, D3, d3, rfl, O3, P3, B3⟩
    have s3 := (s2.nx B3).alloc (.cells #[.slice A3 0 c3, .slice D3 0 d3] 25)
    have n3 := (n2.nx B3).alloc (.cells #[.slice A3 0 c3, .slice D3 0 d3] 25)
    have o3 := SC.new w3 (.slice A3 0 c3) (.slice D3 0 d3) 25
    have b3 := bal w3 (.cells #[.slice A3 0 c3, .slice D3 0 d3] 25)
    have C3 := bt (bt C2 B3) b3
    have m5 := s3.1
    have m6 := s3.2.1
    go_wp2_with fail
    refine (hli _ (st hu C3) (st hi C3)).mono ?_; rintro e w4 ⟨A4, c4, rfl, O4, B4⟩
    have s4 := s3.nx B4
    have n4 := n3.nx B4
    have o4 := o3.nx B4
    have C4 := bt C3 B4
    have m7 := s4.1
    have m8 := s4.2.1
    go_wp2_with fail
    refine (hix _ (st hu C4) (st hi C4)).mono ?_; rintro e w5 ⟨rfl, B5⟩
    go_wp2_with fail
    refine (awake_any _).mono ?_; rintro e w6 ⟨rfl, B6⟩
    have b56 := bt B5 B6
    have s6 := s4.nx b56
    have n6 := n4.nx b56
    have o6 := o4.nx b56
    have C6 := bt C4 b56
    have m9 := s6.1
    have m10 := s6.2.1
    go_wp2_with fail
    refine (hsd _ (st hu C6) (st hi C6)).mono ?_; rintro e w7 ⟨rfl, B7⟩
    have n7 := n6.nx B7
    have o7 := o6.nx B7
    have C7 := bt C6 B7
    have x1 := n7.1
    have x2 := n7.2.1
    have x3 := o7.1
    have x4 := o7.2.1
    go_wp2_with fail
    refine (htw _ (st hu C7)).mono ?_; rintro e w' ⟨rfl, rfl⟩
    go_wp2_with fail
    go_ret
    exact ⟨rfl, C7⟩
  | false =>
    by_cases h64 : 64 < u.length
    · have t64 : decide ((64 : Int) < (u.length : Int)) = true := by simp; omega
      have hno : sdB (ks u) i = false := by unfold sdB; rw [ks_length, decide_eq_false (by omega)]; rfl
      have vn : newA u = ([], [], 4) := by unfold newA; rw [ht, if_neg (by simp), if_pos h64]
      have vo : ofA u i l = ([], [], 2) := by unfold ofA; rw [hno]; rfl
      have vl : listA u i = ([], 2) := by unfold listA; rw [hno]; rfl
      have vi : indexA u i s = (0, 2) := by unfold indexA; rw [hno]; rfl
      rw [hno] at hrs
      rw [vn] at hnew
      simp only [vo] at hof
      simp only [vl] at hli
      simp only [vi] at hix
      simp only [hno] at hsd
      simp only [ht] at htw
      clear hno vn vo vl vi ht
      go_enter Try.func3, Try.ntmps3
      go_wp2_with fail
      refine (hrs).mono ?_; rintro e w' ⟨rfl, rfl⟩
      go_wp2_with fail
      refine (hnew).mono ?_; rintro e w2 ⟨A2, c2, D2, d2, rfl, O2, P2, B2⟩
      have s2 := (s0.nx B2).alloc (.cells #[.slice A2 0 c2, .slice D2 0 d2] 25)
      have n2 := SC.new w2 (.slice A2 0 c2) (.slice D2 0 d2) 25
      have b2 := bal w2 (.cells #[.slice A2 0 c2, .slice D2 0 d2] 25)
      have C2 := bt (bt B1 B2) b2
      have m3 := s2.1
      have m4 := s2.2.1
      go_wp2_with fail
      refine (hof _ (st hu C2) (st hi C2) (st hl C2)).mono ?_; rintro e w3 ⟨A3, c3, D3, d3, rfl, O3, P3, B3⟩
      have s3 := (s2.nx B3).alloc (.cells #[.slice A3 0 c3, .slice D3 0 d3] 25)
      have n3 := (n2.nx B3).alloc (.cells #[.slice A3 0 c3, .slice D3 0 d3] 25)
      have o3 := SC.new w3 (.slice A3 0 c3) (.slice D3 0 d3) 25
      have b3 := bal w3 (.cells #[.slice A3 0 c3, .slice D3 0 d3] 25)
      have C3 := bt (bt C2 B3) b3
      have m5 := s3.1
      have m6 := s3.2.1
      go_wp2_with fail
      refine (hli _ (st hu C3) (st hi C3)).mono ?_; rintro e w4 ⟨A4, c4, rfl, O4, B4⟩
      have s4 := s3.nx B4
      have n4 := n3.nx B4
      have o4 := o3.nx B4
      have C4 := bt C3 B4
      have m7 := s4.1
      have m8 := s4.2.1
      go_wp2_with fail
      refine (hix _ (st hu C4) (st hi C4)).mono ?_; rintro e w5 ⟨rfl, B5⟩
      go_wp2_with fail
      refine (awake_any _).mono ?_; rintro e w6 ⟨rfl, B6⟩
      have b56 := bt B5 B6
      have s6 := s4.nx b56
      have n6 := n4.nx b56
      have o6 := o4.nx b56
      have C6 := bt C4 b56
      have m9 := s6.1
      have m10 := s6.2.1
      go_wp2_with fail
      refine (hsd _ (st hu C6) (st hi C6)).mono ?_; rintro e w7 ⟨rfl, B7⟩
      have n7 := n6.nx B7
      have o7 := o6.nx B7
      have C7 := bt C6 B7
      have x1 := n7.1
      have x2 := n7.2.1
      have x3 := o7.1
      have x4 := o7.2.1
      go_wp2_with fail
      refine (htw _ (st hu C7)).mono ?_; rintro e w' ⟨rfl, rfl⟩
      go_wp2_with fail
      go_ret
      exact ⟨rfl, C7⟩
    have t64 : decide ((64 : Int) < (u.length : Int)) = false := by simp; omega
    have vn := newA_ok ht h64
    have hst : sdB (ks u) (tru u) = true := sdB_of ht h64 (tru_len u)
    have tl := tru_len u
    by_cases hil : i.length = u.length
    · have hyes : sdB (ks u) i = true := sdB_of ht h64 hil
      have vl : listA u i = (msel u i, 0) := by unfold listA; rw [hyes]; rfl
      have HIL := Lib.hid hil
      have hmem := fun w' x y => members_any A D c d _ _ u i w' rfl rfl hil (by omega) x y
      have hpl := fun w' x => rplace_any A c _ u s w' rfl x
      have hpu := fun y w' x => rplace_any A c _ u y w' rfl x
      have hpll := fun y w' x => rplace_any E e0 _ l y w' rfl x
      have oil := ofI_len (ks u) (ks l)
      rw [ks_length] at oil
      have hoi : sdB (ks u) (ofI (ks u) (ks l)) = true := sdB_of ht h64 oil
      have hget : ∀ (k : Nat) (y : Str), u[k]? = some y → (ofI (ks u) (ks l))[k]? = some (decide (y.toList ∈ ks l)) := fun k y hy => ofI_get (ks_get hy)
      have vi : indexA u i s = if plc (ks u) s.toList < 0 then (0, 7) else (plc (ks u) s.toList, 0) := by unfold indexA; rw [hyes]; rfl
      have vo : ofA u i l = if allB (ks u) (ks l) then (u, ofI (ks u) (ks l), 0) else ([], [], 7) := by unfold ofA; rw [hyes]; rfl
      generalize ofI (ks u) (ks l) = oi at *
      rw [hyes] at hrs
      simp only [hyes] at hsd
      simp only [ht] at htw
      rw [vn] at hnew
      simp only [vl] at hli
      simp only [vi] at hix
      simp only [vo] at hof
      have HGET := Lib.hid hget
      clear hil hyes vn vl vi vo hget
      cases hka : allB (ks u) (ks l) with
      | true =>
        simp only [hka, if_true] at hof
        by_cases hp : plc (ks u) s.toList < 0
        · simp only [if_pos hp] at hix
          generalize plc (ks u) s.toList = pp at *
          go_enter Try.func3, Try.ntmps3
          go_wp2_with fail
          refine (hrs).mono ?_; rintro e w' ⟨rfl, rfl⟩
          go_wp2_with fail
          refine (hnew).mono ?_; rintro e w2 ⟨A2, c2, D2, d2, rfl, O2, P2, B2⟩
          have s2 := (s0.nx B2).alloc (.cells #[.slice A2 u.length c2, .slice D2 u.length d2] 25)
          have n2 := SC.new w2 (.slice A2 u.length c2) (.slice D2 u.length d2) 25
          have b2 := bal w2 (.cells #[.slice A2 u.length c2, .slice D2 u.length d2] 25)
          have C2 := bt (bt B1 B2) b2
          have m3 := s2.1
          have m4 := s2.2.1
          go_wp2_with fail
          refine (hof _ (st hu C2) (st hi C2) (st hl C2)).mono ?_; rintro e w3 ⟨A3, c3, D3, d3, rfl, O3, P3, B3⟩
          have s3 := (s2.nx B3).alloc (.cells #[.slice A3 u.length c3, .slice D3 u.length d3] 25)
          have n3 := (n2.nx B3).alloc (.cells #[.slice A3 u.length c3, .slice D3 u.length d3] 25)
          have o3 := SC.new w3 (.slice A3 u.length c3) (.slice D3 u.length d3) 25
          have b3 := bal w3 (.cells #[.slice A3 u.length c3, .slice D3 u.length d3] 25)
          have C3 := bt (bt C2 B3) b3
          have m5 := s3.1
          have m6 := s3.2.1
          go_wp2_with fail
          refine (hli _ (st hu C3) (st hi C3)).mono ?_; rintro e w4 ⟨A4, c4, rfl, O4, B4⟩
          have s4 := s3.nx B4
          have n4 := n3.nx B4
          have o4 := o3.nx B4
          have C4 := bt C3 B4
          have m7 := s4.1
          have m8 := s4.2.1
          go_wp2_with fail
          refine (hix _ (st hu C4) (st hi C4)).mono ?_; rintro e w5 ⟨rfl, B5⟩
          go_wp2_with fail
          refine (awake_any _).mono ?_; rintro e w6 ⟨rfl, B6⟩
          have b56 := bt B5 B6
          have s6 := s4.nx b56
          have n6 := n4.nx b56
          have o6 := o4.nx b56
          have C6 := bt C4 b56
          have m9 := s6.1
          have m10 := s6.2.1
          go_wp2_with fail
          refine (hsd _ (st hu C6) (st hi C6)).mono ?_; rintro e w7 ⟨rfl, B7⟩
          have n7 := n6.nx B7
          have o7 := o6.nx B7
          have C7 := bt C6 B7
          have x1 := n7.1
          have x2 := n7.2.1
          have x3 := o7.1
          have x4 := o7.2.1
          go_wp2_with fail
          refine (htw _ (st hu C7)).mono ?_; rintro e w' ⟨rfl, rfl⟩
          go_wp2_with fail
          have isn := is_yes A2 D2 A A c2 d2 c c _ _ _ _ u (tru u) u u w7 rfl rfl rfl rfl hst rfl (tru_sel u) (st O2.rl (bt (bt (bt (bt b2 B3) b3) B4) (bt b56 B7))) (st P2.rl (bt (bt (bt (bt b2 B3) b3) B4) (bt b56 B7))) (st hu C7) (st hu C7)
          rw [tl] at isn
          refine isn.mono ?_; rintro e w8 ⟨rfl, B8⟩
          have C8 := bt C7 B8
          have o8 := o7.nx B8
          have x5 := o8.1
          have x6 := o8.2.1
          go_wp2_with fail
          have C9 := bt C8 (bal w8 (.cells #[] 9))
          go_loopg [19, 21] l.length (fun gg kv n wr => ∃ k : Nat, k ≤ l.length ∧ l.length - k = gg ∧ n = .int .i64 (k : Int) ∧ kv = .bool (allB (ks u) ((ks l).take k)) ∧ w8.alloc (.cells #[] 9) = wr)
          case atStart => exact ⟨0, Nat.zero_le _, rfl, rfl, by simp [allB], rfl⟩
          case round =>
            obtain ⟨k, hk, rfl, rfl, rfl, rfl⟩ := hrel
            by_cases h0 : k < l.length
            · obtain ⟨b1, o1, rfl, hlt1, hx⟩ := (st hl C9).at_ (by omega)
              obtain ⟨y, hy⟩ : ∃ y, l[k]? = some y := ⟨_, List.getElem?_eq_getElem h0⟩
              have hxk := hx k y hy
              change _ = some (Value.string y) at hxk
              have hst := allB_step (u := ks u) (ks_get hy)
              clear hx hy
              cases hb : allB (ks u) ((ks l).take k) with
              | false =>
                rw [hb, Bool.false_and] at hst
                have HST := Lib.hid hst
                clear hst
                go_wp2_with fail
                go_roundg (l.length - (k + 1))
                case rel => exact ⟨k + 1, by omega, rfl, by go_num, by rw [HST.out], by first | exact rfl | trivial⟩
                case measure => omega
              | true =>
                rw [hb, Bool.true_and] at hst
                have hpy := hpu y _ (st hu C9)
                have hpp := plc_pos (l := ks u) (x := y.toList)
                by_cases hm : y.toList ∈ ks u
                · rw [decide_eq_true hm] at hst
                  have HST := Lib.hid hst
                  have hge := hpp.2 hm
                  generalize plc (ks u) y.toList = py at *
                  clear hpp hm hst
                  go_wp2_with fail
                  refine hpy.mono ?_; rintro e w' ⟨rfl, rfl⟩
                  go_wp2_with fail
                  go_roundg (l.length - (k + 1))
                  case rel => exact ⟨k + 1, by omega, rfl, by go_num, by rw [HST.out], by first | exact rfl | trivial⟩
                  case measure => omega
                · rw [decide_eq_false hm] at hst
                  have HST := Lib.hid hst
                  have hge : ¬ 0 ≤ plc (ks u) y.toList := fun h => hm (hpp.1 h)
                  generalize plc (ks u) y.toList = py at *
                  clear hpp hm hst
                  go_wp2_with fail
                  refine hpy.mono ?_; rintro e w' ⟨rfl, rfl⟩
                  go_wp2_with fail
                  go_roundg (l.length - (k + 1))
                  case rel => exact ⟨k + 1, by omega, rfl, by go_num, by rw [HST.out]; exact congrArg _ (decide_eq_false (by omega)), by first | exact rfl | trivial⟩
                  case measure => omega
            · have hke : allB (ks u) ((ks l).take k) = true := by rw [allB_all (by rw [ks_length]; omega)]; exact hka
              rw [hke]
              clear hke
              go_wp2_with fail
              go_loopg [20, 22] u.length (fun gg ov n wr => ∃ (k : Nat) (A' : Option Addr) (c' : Nat) (o : List Str), k ≤ u.length ∧ u.length - k = gg ∧ n = .int .i64 (k : Int) ∧ ov = .slice A' o.length c' ∧ OS wr w8.heap.size A' c' o ∧ o.length ≤ k ∧ Hid (o = msel (u.take k) (oi.take k)) ∧ Below w8.heap.size w8 wr)
              case atStart => exact ⟨0, _, 0, [], Nat.zero_le _, rfl, rfl, rfl, OS.empty w8, Nat.le_refl _, (by show _ = _; simp [msel]), bal _ _⟩
              case round =>
                obtain ⟨j, A', c', o, hj, rfl, rfl, rfl, hO, hol, hm, B9⟩ := hrel
                have C10 := bt C8 B9
                by_cases h1 : j < u.length
                · obtain ⟨b1, o1, rfl, hlt1, hx⟩ := (st hu C10).at_ (by omega)
                  obtain ⟨y, hy⟩ : ∃ y, u[j]? = some y := ⟨_, List.getElem?_eq_getElem h1⟩
                  have hxk := hx j y hy
                  change _ = some (Value.string y) at hxk
                  have hst := msel_step hy (HGET.out j y hy)
                  rw [← hm.out] at hst
                  have hpy := hpll y _ (st hl C10)
                  have hpp := plc_pos (l := ks l) (x := y.toList)
                  clear hx hy
                  by_cases hmm : y.toList ∈ ks l
                  · rw [decide_eq_true hmm, if_pos rfl] at hst
                    have HST := Lib.hid hst
                    have hge := hpp.2 hmm
                    generalize plc (ks l) y.toList = py at *
                    clear hpp hmm hst
                    have hone := RS.one wr 9 y
                    have hb2 : Below w8.heap.size w8 (wr.alloc (.cells #[.string y] 9)) := B9.alloc B9.size _
                    go_wp2_with fail
                    refine hpy.mono ?_; rintro e w' ⟨rfl, rfl⟩
                    go_wp2_with (at_builtin; refine wp_appS _ rfl _ _ rfl w8.heap.size _ _ _ o rfl rfl (hO.alloc _) _ _ _ [y] rfl rfl _ hone (by simp; omega) hb2.size ?_; intro A20 c20 w20 g1 g2 g3)
                    go_roundg (u.length - (j + 1))
                    case rel => exact ⟨j + 1, A20, c20, _, by omega, rfl, by go_num, by rw [List.length_append]; rfl, g1, by simp; omega, by show _ = _; rw [HST.out], hb2.trans g3⟩
                    case measure => omega
                  · rw [decide_eq_false hmm, if_neg (by simp)] at hst
                    have HST := Lib.hid hst
                    have hge : ¬ 0 ≤ plc (ks l) y.toList := fun h => hmm (hpp.1 h)
                    generalize plc (ks l) y.toList = py at *
                    clear hpp hmm hst
                    go_wp2_with fail
                    refine hpy.mono ?_; rintro e w' ⟨rfl, rfl⟩
                    go_wp2_with fail
                    go_roundg (u.length - (j + 1))
                    case rel => exact ⟨j + 1, A', c', o, by omega, rfl, by go_num, rfl, hO, by omega, by show _ = _; rw [HST.out]; simp, B9⟩
                    case measure => omega
                · have hfin : o = msel u oi := by rw [hm.out, msel_end (by omega) (by rw [oil]; omega)]
                  have HFIN := Lib.hid hfin
                  clear hfin
                  go_wp2_with fail
                  refine (hpl _ (st hu C10)).mono ?_; rintro e w' ⟨rfl, rfl⟩
                  have o9 := o8.nx B9
                  have x7 := o9.1
                  have x8 := o9.2.1
                  have b38 := bt (bt (bt b3 B4) (bt b56 B7)) B8
                  have is2 := is_yes A3 D3 A A' c3 d3 c c' _ _ _ _ u oi u o wr rfl rfl rfl rfl hoi rfl (by rw [HFIN.out, ks_msel]) (st (st O3.rl b38) B9) (st (st P3.rl b38) B9) (st hu C10) hO.rl
                  rw [oil] at is2
                  go_wp2_with fail
                  refine is2.mono ?_; rintro e w11 ⟨rfl, B11⟩
                  go_wp2_with fail
                  refine (hmem _ (st hu (bt C10 B11)) (st hi (bt C10 B11))).mono ?_; rintro e w12 ⟨A12, c12, rfl, O12, B12⟩
                  go_wp2_with fail
                  have b412 := bt (bt (bt (bt b56 B7) B8) (bt B9 B11)) B12
                  refine (same_b A4 A12 c4 c12 _ _ (msel u i) (msel u i) w12 rfl rfl rfl (st O4.rl b412) O12.rl).mono ?_; rintro e w13 ⟨rfl, B13⟩
                  go_wp2_with fail
                  go_ret
                  exact ⟨rfl, bt (bt (bt C10 B11) B12) B13⟩
        · simp only [if_neg hp] at hix
          have hpl1 := plc_lt (ks u) s.toList
          generalize plc (ks u) s.toList = pp at *
          have hp0 : 0 ≤ pp := by omega
          clear hpl1
          go_enter Try.func3, Try.ntmps3
          go_wp2_with fail
          refine (hrs).mono ?_; rintro e w' ⟨rfl, rfl⟩
          go_wp2_with fail
          refine (hnew).mono ?_; rintro e w2 ⟨A2, c2, D2, d2, rfl, O2, P2, B2⟩
          have s2 := (s0.nx B2).alloc (.cells #[.slice A2 u.length c2, .slice D2 u.length d2] 25)
          have n2 := SC.new w2 (.slice A2 u.length c2) (.slice D2 u.length d2) 25
          have b2 := bal w2 (.cells #[.slice A2 u.length c2, .slice D2 u.length d2] 25)
          have C2 := bt (bt B1 B2) b2
          have m3 := s2.1
          have m4 := s2.2.1
          go_wp2_with fail
          refine (hof _ (st hu C2) (st hi C2) (st hl C2)).mono ?_; rintro e w3 ⟨A3, c3, D3, d3, rfl, O3, P3, B3⟩
          have s3 := (s2.nx B3).alloc (.cells #[.slice A3 u.length c3, .slice D3 u.length d3] 25)
          have n3 := (n2.nx B3).alloc (.cells #[.slice A3 u.length c3, .slice D3 u.length d3] 25)
          have o3 := SC.new w3 (.slice A3 u.length c3) (.slice D3 u.length d3) 25
          have b3 := bal w3 (.cells #[.slice A3 u.length c3, .slice D3 u.length d3] 25)
          have C3 := bt (bt C2 B3) b3
          have m5 := s3.1
          have m6 := s3.2.1
          go_wp2_with fail
          refine (hli _ (st hu C3) (st hi C3)).mono ?_; rintro e w4 ⟨A4, c4, rfl, O4, B4⟩
          have s4 := s3.nx B4
          have n4 := n3.nx B4
          have o4 := o3.nx B4
          have C4 := bt C3 B4
          have m7 := s4.1
          have m8 := s4.2.1
          go_wp2_with fail
          refine (hix _ (st hu C4) (st hi C4)).mono ?_; rintro e w5 ⟨rfl, B5⟩
          go_wp2_with fail
          refine (awake_any _).mono ?_; rintro e w6 ⟨rfl, B6⟩
          have b56 := bt B5 B6
          have s6 := s4.nx b56
          have n6 := n4.nx b56
          have o6 := o4.nx b56
          have C6 := bt C4 b56
          have m9 := s6.1
          have m10 := s6.2.1
          go_wp2_with fail
          refine (hsd _ (st hu C6) (st hi C6)).mono ?_; rintro e w7 ⟨rfl, B7⟩
          have n7 := n6.nx B7
          have o7 := o6.nx B7
          have C7 := bt C6 B7
          have x1 := n7.1
          have x2 := n7.2.1
          have x3 := o7.1
          have x4 := o7.2.1
          go_wp2_with fail
          refine (htw _ (st hu C7)).mono ?_; rintro e w' ⟨rfl, rfl⟩
          go_wp2_with fail
          have isn := is_yes A2 D2 A A c2 d2 c c _ _ _ _ u (tru u) u u w7 rfl rfl rfl rfl hst rfl (tru_sel u) (st O2.rl (bt (bt (bt (bt b2 B3) b3) B4) (bt b56 B7))) (st P2.rl (bt (bt (bt (bt b2 B3) b3) B4) (bt b56 B7))) (st hu C7) (st hu C7)
          rw [tl] at isn
          refine isn.mono ?_; rintro e w8 ⟨rfl, B8⟩
          have C8 := bt C7 B8
          have o8 := o7.nx B8
          have x5 := o8.1
          have x6 := o8.2.1
          go_wp2_with fail
          have C9 := bt C8 (bal w8 (.cells #[] 9))
          go_loopg [19, 21] l.length (fun gg kv n wr => ∃ k : Nat, k ≤ l.length ∧ l.length - k = gg ∧ n = .int .i64 (k : Int) ∧ kv = .bool (allB (ks u) ((ks l).take k)) ∧ w8.alloc (.cells #[] 9) = wr)
          case atStart => exact ⟨0, Nat.zero_le _, rfl, rfl, by simp [allB], rfl⟩
          case round =>
            obtain ⟨k, hk, rfl, rfl, rfl, rfl⟩ := hrel
            by_cases h0 : k < l.length
            · obtain ⟨b1, o1, rfl, hlt1, hx⟩ := (st hl C9).at_ (by omega)
              obtain ⟨y, hy⟩ : ∃ y, l[k]? = some y := ⟨_, List.getElem?_eq_getElem h0⟩
              have hxk := hx k y hy
              change _ = some (Value.string y) at hxk
              have hst := allB_step (u := ks u) (ks_get hy)
              clear hx hy
              cases hb : allB (ks u) ((ks l).take k) with
              | false =>
                rw [hb, Bool.false_and] at hst
                have HST := Lib.hid hst
                clear hst
                go_wp2_with fail
                go_roundg (l.length - (k + 1))
                case rel => exact ⟨k + 1, by omega, rfl, by go_num, by rw [HST.out], by first | exact rfl | trivial⟩
                case measure => omega
              | true =>
                rw [hb, Bool.true_and] at hst
                have hpy := hpu y _ (st hu C9)
                have hpp := plc_pos (l := ks u) (x := y.toList)
                by_cases hm : y.toList ∈ ks u
                · rw [decide_eq_true hm] at hst
                  have HST := Lib.hid hst
                  have hge := hpp.2 hm
                  generalize plc (ks u) y.toList = py at *
                  clear hpp hm hst
                  go_wp2_with fail
                  refine hpy.mono ?_; rintro e w' ⟨rfl, rfl⟩
                  go_wp2_with fail
                  go_roundg (l.length - (k + 1))
                  case rel => exact ⟨k + 1, by omega, rfl, by go_num, by rw [HST.out], by first | exact rfl | trivial⟩
                  case measure => omega
                · rw [decide_eq_false hm] at hst
                  have HST := Lib.hid hst
                  have hge : ¬ 0 ≤ plc (ks u) y.toList := fun h => hm (hpp.1 h)
                  generalize plc (ks u) y.toList = py at *
                  clear hpp hm hst
                  go_wp2_with fail
                  refine hpy.mono ?_; rintro e w' ⟨rfl, rfl⟩
                  go_wp2_with fail
                  go_roundg (l.length - (k + 1))
                  case rel => exact ⟨k + 1, by omega, rfl, by go_num, by rw [HST.out]; exact congrArg _ (decide_eq_false (by omega)), by first | exact rfl | trivial⟩
                  case measure => omega
            · have hke : allB (ks u) ((ks l).take k) = true := by rw [allB_all (by rw [ks_length]; omega)]; exact hka
              rw [hke]
              clear hke
              go_wp2_with fail
              go_loopg [20, 22] u.length (fun gg ov n wr => ∃ (k : Nat) (A' : Option Addr) (c' : Nat) (o : List Str), k ≤ u.length ∧ u.length - k = gg ∧ n = .int .i64 (k : Int) ∧ ov = .slice A' o.length c' ∧ OS wr w8.heap.size A' c' o ∧ o.length ≤ k ∧ Hid (o = msel (u.take k) (oi.take k)) ∧ Below w8.heap.size w8 wr)
              case atStart => exact ⟨0, _, 0, [], Nat.zero_le _, rfl, rfl, rfl, OS.empty w8, Nat.le_refl _, (by show _ = _; simp [msel]), bal _ _⟩
              case round =>
                obtain ⟨j, A', c', o, hj, rfl, rfl, rfl, hO, hol, hm, B9⟩ := hrel
                have C10 := bt C8 B9
                by_cases h1 : j < u.length
                · obtain ⟨b1, o1, rfl, hlt1, hx⟩ := (st hu C10).at_ (by omega)
                  obtain ⟨y, hy⟩ : ∃ y, u[j]? = some y := ⟨_, List.getElem?_eq_getElem h1⟩
                  have hxk := hx j y hy
                  change _ = some (Value.string y) at hxk
                  have hst := msel_step hy (HGET.out j y hy)
                  rw [← hm.out] at hst
                  have hpy := hpll y _ (st hl C10)
                  have hpp := plc_pos (l := ks l) (x := y.toList)
                  clear hx hy
                  by_cases hmm : y.toList ∈ ks l
                  · rw [decide_eq_true hmm, if_pos rfl] at hst
                    have HST := Lib.hid hst
                    have hge := hpp.2 hmm
                    generalize plc (ks l) y.toList = py at *
                    clear hpp hmm hst
                    have hone := RS.one wr 9 y
                    have hb2 : Below w8.heap.size w8 (wr.alloc (.cells #[.string y] 9)) := B9.alloc B9.size _
                    go_wp2_with fail
                    refine hpy.mono ?_; rintro e w' ⟨rfl, rfl⟩
                    go_wp2_with (at_builtin; refine wp_appS _ rfl _ _ rfl w8.heap.size _ _ _ o rfl rfl (hO.alloc _) _ _ _ [y] rfl rfl _ hone (by simp; omega) hb2.size ?_; intro A20 c20 w20 g1 g2 g3)
                    go_roundg (u.length - (j + 1))
                    case rel => exact ⟨j + 1, A20, c20, _, by omega, rfl, by go_num, by rw [List.length_append]; rfl, g1, by simp; omega, by show _ = _; rw [HST.out], hb2.trans g3⟩
                    case measure => omega
                  · rw [decide_eq_false hmm, if_neg (by simp)] at hst
                    have HST := Lib.hid hst
                    have hge : ¬ 0 ≤ plc (ks l) y.toList := fun h => hmm (hpp.1 h)
                    generalize plc (ks l) y.toList = py at *
                    clear hpp hmm hst
                    go_wp2_with fail
                    refine hpy.mono ?_; rintro e w' ⟨rfl, rfl⟩
                    go_wp2_with fail
                    go_roundg (u.length - (j + 1))
                    case rel => exact ⟨j + 1, A', c', o, by omega, rfl, by go_num, rfl, hO, by omega, by show _ = _; rw [HST.out]; simp, B9⟩
                    case measure => omega
                · have hfin : o = msel u oi := by rw [hm.out, msel_end (by omega) (by rw [oil]; omega)]
                  have HFIN := Lib.hid hfin
                  clear hfin
                  go_wp2_with fail
                  refine (hpl _ (st hu C10)).mono ?_; rintro e w' ⟨rfl, rfl⟩
                  have o9 := o8.nx B9
                  have x7 := o9.1
                  have x8 := o9.2.1
                  have b38 := bt (bt (bt b3 B4) (bt b56 B7)) B8
                  have is2 := is_yes A3 D3 A A' c3 d3 c c' _ _ _ _ u oi u o wr rfl rfl rfl rfl hoi rfl (by rw [HFIN.out, ks_msel]) (st (st O3.rl b38) B9) (st (st P3.rl b38) B9) (st hu C10) hO.rl
                  rw [oil] at is2
                  go_wp2_with fail
                  refine is2.mono ?_; rintro e w11 ⟨rfl, B11⟩
                  go_wp2_with fail
                  refine (hmem _ (st hu (bt C10 B11)) (st hi (bt C10 B11))).mono ?_; rintro e w12 ⟨A12, c12, rfl, O12, B12⟩
                  go_wp2_with fail
                  have b412 := bt (bt (bt (bt b56 B7) B8) (bt B9 B11)) B12
                  refine (same_b A4 A12 c4 c12 _ _ (msel u i) (msel u i) w12 rfl rfl rfl (st O4.rl b412) O12.rl).mono ?_; rintro e w13 ⟨rfl, B13⟩
                  go_wp2_with fail
                  go_ret
                  exact ⟨rfl, bt (bt (bt C10 B11) B12) B13⟩
      | false =>
        simp only [hka, if_neg (show ¬ (false = true) by simp)] at hof
        by_cases hp : plc (ks u) s.toList < 0
        · simp only [if_pos hp] at hix
          generalize plc (ks u) s.toList = pp at *
          go_enter Try.func3, Try.ntmps3
          go_wp2_with fail
          refine (hrs).mono ?_; rintro e w' ⟨rfl, rfl⟩
          go_wp2_with fail
          refine (hnew).mono ?_; rintro e w2 ⟨A2, c2, D2, d2, rfl, O2, P2, B2⟩
          have s2 := (s0.nx B2).alloc (.cells #[.slice A2 u.length c2, .slice D2 u.length d2] 25)
          have n2 := SC.new w2 (.slice A2 u.length c2) (.slice D2 u.length d2) 25
          have b2 := bal w2 (.cells #[.slice A2 u.length c2, .slice D2 u.length d2] 25)
          have C2 := bt (bt B1 B2) b2
          have m3 := s2.1
          have m4 := s2.2.1
          go_wp2_with fail
          refine (hof _ (st hu C2) (st hi C2) (st hl C2)).mono ?_; rintro e w3 ⟨A3, c3, D3, d3, rfl, O3, P3, B3⟩
          have s3 := (s2.nx B3).alloc (.cells #[.slice A3 0 c3, .slice D3 0 d3] 25)
          have n3 := (n2.nx B3).alloc (.cells #[.slice A3 0 c3, .slice D3 0 d3] 25)
          have o3 := SC.new w3 (.slice A3 0 c3) (.slice D3 0 d3) 25
          have b3 := bal w3 (.cells #[.slice A3 0 c3, .slice D3 0 d3] 25)
          have C3 := bt (bt C2 B3) b3
          have m5 := s3.1
          have m6 := s3.2.1
          go_wp2_with fail
          refine (hli _ (st hu C3) (st hi C3)).mono ?_; rintro e w4 ⟨A4, c4, rfl, O4, B4⟩
          have s4 := s3.nx B4
          have n4 := n3.nx B4
          have o4 := o3.nx B4
          have C4 := bt C3 B4
          have m7 := s4.1
          have m8 := s4.2.1
          go_wp2_with fail
          refine (hix _ (st hu C4) (st hi C4)).mono ?_; rintro e w5 ⟨rfl, B5⟩
          go_wp2_with fail
          refine (awake_any _).mono ?_; rintro e w6 ⟨rfl, B6⟩
          have b56 := bt B5 B6
          have s6 := s4.nx b56
          have n6 := n4.nx b56
          have o6 := o4.nx b56
          have C6 := bt C4 b56
          have m9 := s6.1
          have m10 := s6.2.1
          go_wp2_with fail
          refine (hsd _ (st hu C6) (st hi C6)).mono ?_; rintro e w7 ⟨rfl, B7⟩
          have n7 := n6.nx B7
          have o7 := o6.nx B7
          have C7 := bt C6 B7
          have x1 := n7.1
          have x2 := n7.2.1
          have x3 := o7.1
          have x4 := o7.2.1
          go_wp2_with fail
          refine (htw _ (st hu C7)).mono ?_; rintro e w' ⟨rfl, rfl⟩
          go_wp2_with fail
          have isn := is_yes A2 D2 A A c2 d2 c c _ _ _ _ u (tru u) u u w7 rfl rfl rfl rfl hst rfl (tru_sel u) (st O2.rl (bt (bt (bt (bt b2 B3) b3) B4) (bt b56 B7))) (st P2.rl (bt (bt (bt (bt b2 B3) b3) B4) (bt b56 B7))) (st hu C7) (st hu C7)
          rw [tl] at isn
          refine isn.mono ?_; rintro e w8 ⟨rfl, B8⟩
          have C8 := bt C7 B8
          have o8 := o7.nx B8
          have x5 := o8.1
          have x6 := o8.2.1
          go_wp2_with fail
          have C9 := bt C8 (bal w8 (.cells #[] 9))
          go_loopg [19, 21] l.length (fun gg kv n wr => ∃ k : Nat, k ≤ l.length ∧ l.length - k = gg ∧ n = .int .i64 (k : Int) ∧ kv = .bool (allB (ks u) ((ks l).take k)) ∧ w8.alloc (.cells #[] 9) = wr)
          case atStart => exact ⟨0, Nat.zero_le _, rfl, rfl, by simp [allB], rfl⟩
          case round =>
            obtain ⟨k, hk, rfl, rfl, rfl, rfl⟩ := hrel
            by_cases h0 : k < l.length
            · obtain ⟨b1, o1, rfl, hlt1, hx⟩ := (st hl C9).at_ (by omega)
              obtain ⟨y, hy⟩ : ∃ y, l[k]? = some y := ⟨_, List.getElem?_eq_getElem h0⟩
              have hxk := hx k y hy
              change _ = some (Value.string y) at hxk
              have hst := allB_step (u := ks u) (ks_get hy)
              clear hx hy
              cases hb : allB (ks u) ((ks l).take k) with
              | false =>
                rw [hb, Bool.false_and] at hst
                have HST := Lib.hid hst
                clear hst
                go_wp2_with fail
                go_roundg (l.length - (k + 1))
                case rel => exact ⟨k + 1, by omega, rfl, by go_num, by rw [HST.out], by first | exact rfl | trivial⟩
                case measure => omega
              | true =>
                rw [hb, Bool.true_and] at hst
                have hpy := hpu y _ (st hu C9)
                have hpp := plc_pos (l := ks u) (x := y.toList)
                by_cases hm : y.toList ∈ ks u
                · rw [decide_eq_true hm] at hst
                  have HST := Lib.hid hst
                  have hge := hpp.2 hm
                  generalize plc (ks u) y.toList = py at *
                  clear hpp hm hst
                  go_wp2_with fail
                  refine hpy.mono ?_; rintro e w' ⟨rfl, rfl⟩
                  go_wp2_with fail
                  go_roundg (l.length - (k + 1))
                  case rel => exact ⟨k + 1, by omega, rfl, by go_num, by rw [HST.out], by first | exact rfl | trivial⟩
                  case measure => omega
                · rw [decide_eq_false hm] at hst
                  have HST := Lib.hid hst
                  have hge : ¬ 0 ≤ plc (ks u) y.toList := fun h => hm (hpp.1 h)
                  generalize plc (ks u) y.toList = py at *
                  clear hpp hm hst
                  go_wp2_with fail
                  refine hpy.mono ?_; rintro e w' ⟨rfl, rfl⟩
                  go_wp2_with fail
                  go_roundg (l.length - (k + 1))
                  case rel => exact ⟨k + 1, by omega, rfl, by go_num, by rw [HST.out]; exact congrArg _ (decide_eq_false (by omega)), by first | exact rfl | trivial⟩
                  case measure => omega
            · have hke : allB (ks u) ((ks l).take k) = false := by rw [allB_all (by rw [ks_length]; omega)]; exact hka
              rw [hke]
              clear hke
              go_wp2_with fail
              go_loopg [20, 22] u.length (fun gg ov n wr => ∃ (k : Nat) (A' : Option Addr) (c' : Nat) (o : List Str), k ≤ u.length ∧ u.length - k = gg ∧ n = .int .i64 (k : Int) ∧ ov = .slice A' o.length c' ∧ OS wr w8.heap.size A' c' o ∧ o.length ≤ k ∧ Hid (o = msel (u.take k) (oi.take k)) ∧ Below w8.heap.size w8 wr)
              case atStart => exact ⟨0, _, 0, [], Nat.zero_le _, rfl, rfl, rfl, OS.empty w8, Nat.le_refl _, (by show _ = _; simp [msel]), bal _ _⟩
              case round =>
                obtain ⟨j, A', c', o, hj, rfl, rfl, rfl, hO, hol, hm, B9⟩ := hrel
                have C10 := bt C8 B9
                by_cases h1 : j < u.length
                · obtain ⟨b1, o1, rfl, hlt1, hx⟩ := (st hu C10).at_ (by omega)
                  obtain ⟨y, hy⟩ : ∃ y, u[j]? = some y := ⟨_, List.getElem?_eq_getElem h1⟩
                  have hxk := hx j y hy
                  change _ = some (Value.string y) at hxk
                  have hst := msel_step hy (HGET.out j y hy)
                  rw [← hm.out] at hst
                  have hpy := hpll y _ (st hl C10)
                  have hpp := plc_pos (l := ks l) (x := y.toList)
                  clear hx hy
                  by_cases hmm : y.toList ∈ ks l
                  · rw [decide_eq_true hmm, if_pos rfl] at hst
                    have HST := Lib.hid hst
                    have hge := hpp.2 hmm
                    generalize plc (ks l) y.toList = py at *
                    clear hpp hmm hst
                    have hone := RS.one wr 9 y
                    have hb2 : Below w8.heap.size w8 (wr.alloc (.cells #[.string y] 9)) := B9.alloc B9.size _
                    go_wp2_with fail
                    refine hpy.mono ?_; rintro e w' ⟨rfl, rfl⟩
                    go_wp2_with (at_builtin; refine wp_appS _ rfl _ _ rfl w8.heap.size _ _ _ o rfl rfl (hO.alloc _) _ _ _ [y] rfl rfl _ hone (by simp; omega) hb2.size ?_; intro A20 c20 w20 g1 g2 g3)
                    go_roundg (u.length - (j + 1))
                    case rel => exact ⟨j + 1, A20, c20, _, by omega, rfl, by go_num, by rw [List.length_append]; rfl, g1, by simp; omega, by show _ = _; rw [HST.out], hb2.trans g3⟩
                    case measure => omega
                  · rw [decide_eq_false hmm, if_neg (by simp)] at hst
                    have HST := Lib.hid hst
                    have hge : ¬ 0 ≤ plc (ks l) y.toList := fun h => hmm (hpp.1 h)
                    generalize plc (ks l) y.toList = py at *
                    clear hpp hmm hst
                    go_wp2_with fail
                    refine hpy.mono ?_; rintro e w' ⟨rfl, rfl⟩
                    go_wp2_with fail
                    go_roundg (u.length - (j + 1))
                    case rel => exact ⟨j + 1, A', c', o, by omega, rfl, by go_num, rfl, hO, by omega, by show _ = _; rw [HST.out]; simp, B9⟩
                    case measure => omega
                · have hfin : o = msel u oi := by rw [hm.out, msel_end (by omega) (by rw [oil]; omega)]
                  have HFIN := Lib.hid hfin
                  clear hfin
                  go_wp2_with fail
                  refine (hpl _ (st hu C10)).mono ?_; rintro e w' ⟨rfl, rfl⟩
                  have B11 := Below.refl wr.heap.size wr
                  go_wp2_with fail
                  refine (hmem _ (st hu C10) (st hi C10)).mono ?_; rintro e w12 ⟨A12, c12, rfl, O12, B12⟩
                  go_wp2_with fail
                  have b412 := bt (bt (bt (bt b56 B7) B8) B9) B12
                  refine (same_b A4 A12 c4 c12 _ _ (msel u i) (msel u i) w12 rfl rfl rfl (st O4.rl b412) O12.rl).mono ?_; rintro e w13 ⟨rfl, B13⟩
                  go_wp2_with fail
                  go_ret
                  exact ⟨rfl, bt (bt C10 B12) B13⟩
        · simp only [if_neg hp] at hix
          have hpl1 := plc_lt (ks u) s.toList
          generalize plc (ks u) s.toList = pp at *
          have hp0 : 0 ≤ pp := by omega
          clear hpl1
          go_enter Try.func3, Try.ntmps3
          go_wp2_with fail
          refine (hrs).mono ?_; rintro e w' ⟨rfl, rfl⟩
          go_wp2_with fail
          refine (hnew).mono ?_; rintro e w2 ⟨A2, c2, D2, d2, rfl, O2, P2, B2⟩
          have s2 := (s0.nx B2).alloc (.cells #[.slice A2 u.length c2, .slice D2 u.length d2] 25)
          have n2 := SC.new w2 (.slice A2 u.length c2) (.slice D2 u.length d2) 25
          have b2 := bal w2 (.cells #[.slice A2 u.length c2, .slice D2 u.length d2] 25)
          have C2 := bt (bt B1 B2) b2
          have m3 := s2.1
          have m4 := s2.2.1
          go_wp2_with fail
          refine (hof _ (st hu C2) (st hi C2) (st hl C2)).mono ?_; rintro e w3 ⟨A3, c3, D3, d3, rfl, O3, P3, B3⟩
          have s3 := (s2.nx B3).alloc (.cells #[.slice A3 0 c3, .slice D3 0 d3] 25)
          have n3 := (n2.nx B3).alloc (.cells #[.slice A3 0 c3, .slice D3 0 d3] 25)
          have o3 := SC.new w3 (.slice A3 0 c3) (.slice D3 0 d3) 25
          have b3 := bal w3 (.cells #[.slice A3 0 c3, .slice D3 0 d3] 25)
          have C3 := bt (bt C2 B3) b3
          have m5 := s3.1
          have m6 := s3.2.1
          go_wp2_with fail
          refine (hli _ (st hu C3) (st hi C3)).mono ?_; rintro e w4 ⟨A4, c4, rfl, O4, B4⟩
          have s4 := s3.nx B4
          have n4 := n3.nx B4
          have o4 := o3.nx B4
          have C4 := bt C3 B4
          have m7 := s4.1
          have m8 := s4.2.1
          go_wp2_with fail
          refine (hix _ (st hu C4) (st hi C4)).mono ?_; rintro e w5 ⟨rfl, B5⟩
          go_wp2_with fail
          refine (awake_any _).mono ?_; rintro e w6 ⟨rfl, B6⟩
          have b56 := bt B5 B6
          have s6 := s4.nx b56
          have n6 := n4.nx b56
          have o6 := o4.nx b56
          have C6 := bt C4 b56
          have m9 := s6.1
          have m10 := s6.2.1
          go_wp2_with fail
          refine (hsd _ (st hu C6) (st hi C6)).mono ?_; rintro e w7 ⟨rfl, B7⟩
          have n7 := n6.nx B7
          have o7 := o6.nx B7
          have C7 := bt C6 B7
          have x1 := n7.1
          have x2 := n7.2.1
          have x3 := o7.1
          have x4 := o7.2.1
          go_wp2_with fail
          refine (htw _ (st hu C7)).mono ?_; rintro e w' ⟨rfl, rfl⟩
          go_wp2_with fail
          have isn := is_yes A2 D2 A A c2 d2 c c _ _ _ _ u (tru u) u u w7 rfl rfl rfl rfl hst rfl (tru_sel u) (st O2.rl (bt (bt (bt (bt b2 B3) b3) B4) (bt b56 B7))) (st P2.rl (bt (bt (bt (bt b2 B3) b3) B4) (bt b56 B7))) (st hu C7) (st hu C7)
          rw [tl] at isn
          refine isn.mono ?_; rintro e w8 ⟨rfl, B8⟩
          have C8 := bt C7 B8
          have o8 := o7.nx B8
          have x5 := o8.1
          have x6 := o8.2.1
          go_wp2_with fail
          have C9 := bt C8 (bal w8 (.cells #[] 9))
          go_loopg [19, 21] l.length (fun gg kv n wr => ∃ k : Nat, k ≤ l.length ∧ l.length - k = gg ∧ n = .int .i64 (k : Int) ∧ kv = .bool (allB (ks u) ((ks l).take k)) ∧ w8.alloc (.cells #[] 9) = wr)
          case atStart => exact ⟨0, Nat.zero_le _, rfl, rfl, by simp [allB], rfl⟩
          case round =>
            obtain ⟨k, hk, rfl, rfl, rfl, rfl⟩ := hrel
            by_cases h0 : k < l.length
            · obtain ⟨b1, o1, rfl, hlt1, hx⟩ := (st hl C9).at_ (by omega)
              obtain ⟨y, hy⟩ : ∃ y, l[k]? = some y := ⟨_, List.getElem?_eq_getElem h0⟩
              have hxk := hx k y hy
              change _ = some (Value.string y) at hxk
              have hst := allB_step (u := ks u) (ks_get hy)
              clear hx hy
              cases hb : allB (ks u) ((ks l).take k) with
              | false =>
                rw [hb, Bool.false_and] at hst
                have HST := Lib.hid hst
                clear hst
                go_wp2_with fail
                go_roundg (l.length - (k + 1))
                case rel => exact ⟨k + 1, by omega, rfl, by go_num, by rw [HST.out], by first | exact rfl | trivial⟩
                case measure => omega
              | true =>
                rw [hb, Bool.true_and] at hst
                have hpy := hpu y _ (st hu C9)
                have hpp := plc_pos (l := ks u) (x := y.toList)
                by_cases hm : y.toList ∈ ks u
                · rw [decide_eq_true hm] at hst
                  have HST := Lib.hid hst
                  have hge := hpp.2 hm
                  generalize plc (ks u) y.toList = py at *
                  clear hpp hm hst
                  go_wp2_with fail
                  refine hpy.mono ?_; rintro e w' ⟨rfl, rfl⟩
                  go_wp2_with fail
                  go_roundg (l.length - (k + 1))
                  case rel => exact ⟨k + 1, by omega, rfl, by go_num, by rw [HST.out], by first | exact rfl | trivial⟩
                  case measure => omega
                · rw [decide_eq_false hm] at hst
                  have HST := Lib.hid hst
                  have hge : ¬ 0 ≤ plc (ks u) y.toList := fun h => hm (hpp.1 h)
                  generalize plc (ks u) y.toList = py at *
                  clear hpp hm hst
                  go_wp2_with fail
                  refine hpy.mono ?_; rintro e w' ⟨rfl, rfl⟩
                  go_wp2_with fail
                  go_roundg (l.length - (k + 1))
                  case rel => exact ⟨k + 1, by omega, rfl, by go_num, by rw [HST.out]; exact congrArg _ (decide_eq_false (by omega)), by first | exact rfl | trivial⟩
                  case measure => omega
            · have hke : allB (ks u) ((ks l).take k) = false := by rw [allB_all (by rw [ks_length]; omega)]; exact hka
              rw [hke]
              clear hke
              go_wp2_with fail
              go_loopg [20, 22] u.length (fun gg ov n wr => ∃ (k : Nat) (A' : Option Addr) (c' : Nat) (o : List Str), k ≤ u.length ∧ u.length - k = gg ∧ n = .int .i64 (k : Int) ∧ ov = .slice A' o.length c' ∧ OS wr w8.heap.size A' c' o ∧ o.length ≤ k ∧ Hid (o = msel (u.take k) (oi.take k)) ∧ Below w8.heap.size w8 wr)
              case atStart => exact ⟨0, _, 0, [], Nat.zero_le _, rfl, rfl, rfl, OS.empty w8, Nat.le_refl _, (by show _ = _; simp [msel]), bal _ _⟩
              case round =>
                obtain ⟨j, A', c', o, hj, rfl, rfl, rfl, hO, hol, hm, B9⟩ := hrel
                have C10 := bt C8 B9
                by_cases h1 : j < u.length
                · obtain ⟨b1, o1, rfl, hlt1, hx⟩ := (st hu C10).at_ (by omega)
                  obtain ⟨y, hy⟩ : ∃ y, u[j]? = some y := ⟨_, List.getElem?_eq_getElem h1⟩
                  have hxk := hx j y hy
                  change _ = some (Value.string y) at hxk
                  have hst := msel_step hy (HGET.out j y hy)
                  rw [← hm.out] at hst
                  have hpy := hpll y _ (st hl C10)
                  have hpp := plc_pos (l := ks l) (x := y.toList)
                  clear hx hy
                  by_cases hmm : y.toList ∈ ks l
                  · rw [decide_eq_true hmm, if_pos rfl] at hst
                    have HST := Lib.hid hst
                    have hge := hpp.2 hmm
                    generalize plc (ks l) y.toList = py at *
                    clear hpp hmm hst
                    have hone := RS.one wr 9 y
                    have hb2 : Below w8.heap.size w8 (wr.alloc (.cells #[.string y] 9)) := B9.alloc B9.size _
                    go_wp2_with fail
                    refine hpy.mono ?_; rintro e w' ⟨rfl, rfl⟩
                    go_wp2_with (at_builtin; refine wp_appS _ rfl _ _ rfl w8.heap.size _ _ _ o rfl rfl (hO.alloc _) _ _ _ [y] rfl rfl _ hone (by simp; omega) hb2.size ?_; intro A20 c20 w20 g1 g2 g3)
                    go_roundg (u.length - (j + 1))
                    case rel => exact ⟨j + 1, A20, c20, _, by omega, rfl, by go_num, by rw [List.length_append]; rfl, g1, by simp; omega, by show _ = _; rw [HST.out], hb2.trans g3⟩
                    case measure => omega
                  · rw [decide_eq_false hmm, if_neg (by simp)] at hst
                    have HST := Lib.hid hst
                    have hge : ¬ 0 ≤ plc (ks l) y.toList := fun h => hmm (hpp.1 h)
                    generalize plc (ks l) y.toList = py at *
                    clear hpp hmm hst
                    go_wp2_with fail
                    refine hpy.mono ?_; rintro e w' ⟨rfl, rfl⟩
                    go_wp2_with fail
                    go_roundg (u.length - (j + 1))
                    case rel => exact ⟨j + 1, A', c', o, by omega, rfl, by go_num, rfl, hO, by omega, by show _ = _; rw [HST.out]; simp, B9⟩
                    case measure => omega
                · have hfin : o = msel u oi := by rw [hm.out, msel_end (by omega) (by rw [oil]; omega)]
                  have HFIN := Lib.hid hfin
                  clear hfin
                  go_wp2_with fail
                  refine (hpl _ (st hu C10)).mono ?_; rintro e w' ⟨rfl, rfl⟩
                  have B11 := Below.refl wr.heap.size wr
                  go_wp2_with fail
                  refine (hmem _ (st hu C10) (st hi C10)).mono ?_; rintro e w12 ⟨A12, c12, rfl, O12, B12⟩
                  go_wp2_with fail
                  have b412 := bt (bt (bt (bt b56 B7) B8) B9) B12
                  refine (same_b A4 A12 c4 c12 _ _ (msel u i) (msel u i) w12 rfl rfl rfl (st O4.rl b412) O12.rl).mono ?_; rintro e w13 ⟨rfl, B13⟩
                  go_wp2_with fail
                  go_ret
                  exact ⟨rfl, bt (bt C10 B12) B13⟩
    · have hno : sdB (ks u) i = false := by unfold sdB; rw [ks_length, decide_eq_false hil]; simp
      have vo : ofA u i l = ([], [], 2) := by unfold ofA; rw [hno]; rfl
      have vl : listA u i = ([], 2) := by unfold listA; rw [hno]; rfl
      have vi : indexA u i s = (0, 2) := by unfold indexA; rw [hno]; rfl
      rw [hno] at hrs
      rw [vn] at hnew
      simp only [vo] at hof
      simp only [vl] at hli
      simp only [vi] at hix
      simp only [hno] at hsd
      simp only [ht] at htw
      clear hno vn vo vl vi ht h64
      go_enter Try.func3, Try.ntmps3
      go_wp2_with fail
      refine (hrs).mono ?_; rintro e w' ⟨rfl, rfl⟩
      go_wp2_with fail
      refine (hnew).mono ?_; rintro e w2 ⟨A2, c2, D2, d2, rfl, O2, P2, B2⟩
      have s2 := (s0.nx B2).alloc (.cells #[.slice A2 u.length c2, .slice D2 u.length d2] 25)
      have n2 := SC.new w2 (.slice A2 u.length c2) (.slice D2 u.length d2) 25
      have b2 := bal w2 (.cells #[.slice A2 u.length c2, .slice D2 u.length d2] 25)
      have C2 := bt (bt B1 B2) b2
      have m3 := s2.1
      have m4 := s2.2.1
      go_wp2_with fail
      refine (hof _ (st hu C2) (st hi C2) (st hl C2)).mono ?_; rintro e w3 ⟨A3, c3, D3, d3, rfl, O3, P3, B3⟩
      have s3 := (s2.nx B3).alloc (.cells #[.slice A3 0 c3, .slice D3 0 d3] 25)
      have n3 := (n2.nx B3).alloc (.cells #[.slice A3 0 c3, .slice D3 0 d3] 25)
      have o3 := SC.new w3 (.slice A3 0 c3) (.slice D3 0 d3) 25
      have b3 := bal w3 (.cells #[.slice A3 0 c3, .slice D3 0 d3] 25)
      have C3 := bt (bt C2 B3) b3
      have m5 := s3.1
      have m6 := s3.2.1
      go_wp2_with fail
      refine (hli _ (st hu C3) (st hi C3)).mono ?_; rintro e w4 ⟨A4, c4, rfl, O4, B4⟩
      have s4 := s3.nx B4
      have n4 := n3.nx B4
      have o4 := o3.nx B4
      have C4 := bt C3 B4
      have m7 := s4.1
      have m8 := s4.2.1
      go_wp2_with fail
      refine (hix _ (st hu C4) (st hi C4)).mono ?_; rintro e w5 ⟨rfl, B5⟩
      go_wp2_with fail
      refine (awake_any _).mono ?_; rintro e w6 ⟨rfl, B6⟩
      have b56 := bt B5 B6
      have s6 := s4.nx b56
      have n6 := n4.nx b56
      have o6 := o4.nx b56
      have C6 := bt C4 b56
      have m9 := s6.1
      have m10 := s6.2.1
      go_wp2_with fail
      refine (hsd _ (st hu C6) (st hi C6)).mono ?_; rintro e w7 ⟨rfl, B7⟩
      have n7 := n6.nx B7
      have o7 := o6.nx B7
      have C7 := bt C6 B7
      have x1 := n7.1
      have x2 := n7.2.1
      have x3 := o7.1
      have x4 := o7.2.1
      go_wp2_with fail
      refine (htw _ (st hu C7)).mono ?_; rintro e w' ⟨rfl, rfl⟩
      go_wp2_with fail
      have isn := is_yes A2 D2 A A c2 d2 c c _ _ _ _ u (tru u) u u w7 rfl rfl rfl rfl hst rfl (tru_sel u) (st O2.rl (bt (bt (bt (bt b2 B3) b3) B4) (bt b56 B7))) (st P2.rl (bt (bt (bt (bt b2 B3) b3) B4) (bt b56 B7))) (st hu C7) (st hu C7)
      rw [tl] at isn
      refine isn.mono ?_; rintro e w8 ⟨rfl, B8⟩
      have C8 := bt C7 B8
      have o8 := o7.nx B8
      have x5 := o8.1
      have x6 := o8.2.1
      go_wp2_with fail
      go_ret
      exact ⟨rfl, C8⟩
end Go.Proofs.Ytmgblmdilepkpaa
