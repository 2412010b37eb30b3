/- The walk of the law EnumSets. -/
import Derived.Test.YtmgblmdilepkpaaEnJ
namespace Go.Proofs.Ytmgblmdilepkpaa
open Go.RowKit

theorem wp_appT (w : World) {ops : Array Oper} {rest : List Oper} {o : Oper} {a : Act} {Q : Exit → Act → World → Prop}
    (hg : o.guard = none) (s x : Operand) (hop : o.op = Op.call { callee := Callee.builtin Builtin.append, args := #[s, x], argTypes := #[22, 22] })
    (base : Nat) (A : Option Addr) (c n : Nat) (l : List Str) (hs : a.eval s = .slice A n c) (hn : n = l.length) (hown : OS w base A c l)
    (D : Option Addr) (d m : Nat) (r : List Str) (hx : a.eval x = .slice D m d) (hm : m = r.length) (Br : Nat) (hr : RS w Br D d r)
    (hlen : l.length + r.length ≤ 1000000) (hbase : base ≤ w.heap.size)
    (hK : ∀ A' c' w', OS w' base A' c' (l ++ r) → w.grownBy w' (Value.slice A n c).ownBlock → Below base w w' → (∀ g, A' = some ⟨g, 0, none⟩ → g < w.heap.size → A = some ⟨g, 0, none⟩) → wpList Try.prog ops Q rest (a.put o.dst (.slice A' (l ++ r).length c')) w') :
    wpList Try.prog ops Q (o :: rest) a w :=
  wp_app w 22 9 fs ByteArray.empty 16 Try.underlying22 infoS (fun _ => ⟨rfl, rfl⟩) hg s x hop base A c n l hs hn hown D d m r hx hm Br hr (by omega) (by omega) hbase
    fun A' c' w' h1 h2 h3 => hK A' c' w' h1 h2 ((Below.refl _ _).grown h2 hbase (by
      intro k hk
      rcases hown.form with ⟨rfl, _⟩ | ⟨g, rfl, hb, _⟩
      · simp [Value.ownBlock] at hk
      · simp [Value.ownBlock] at hk; omega)) h3
/-- two rows of the call's own lie apart -/
def Apt (A B : Option Addr) : Prop := ∀ g, A = some ⟨g, 0, none⟩ → B ≠ some ⟨g, 0, none⟩
theorem Apt.symm {A B : Option Addr} (h : Apt A B) : Apt B A := fun g h1 h2 => h g h2 h1
theorem Apt.mk {g h : Nat} (hn : g ≠ h) : Apt (some ⟨g, 0, none⟩) (some ⟨h, 0, none⟩) := fun k h1 h2 => by
  simp at h1 h2
  omega
theorem apt_keep {w w' : World} {A B : Option Addr} {b n c c2 : Nat} {l : List Str} (h : OS w b B c2 l) (hp : Apt A B) (hg : w.grownBy w' (Value.slice A n c).ownBlock) (hf : ∀ g, A = some ⟨g, 0, none⟩ ∨ A = none ∨ True) (ho : A = none ∨ ∃ g, A = some ⟨g, 0, none⟩) : OS w' b B c2 l := by
  refine OL.grown h hg fun g hB hrow => ?_
  rcases ho with rfl | ⟨k, rfl⟩
  · simp [Value.ownBlock] at hrow
  · simp [Value.ownBlock] at hrow
    subst hrow
    exact hp k rfl hB
theorem apt_new {w : World} {A A' B : Option Addr} {b c2 : Nat} {l : List Str} (h : OS w b B c2 l) (hp : Apt A B) (h4 : ∀ g, A' = some ⟨g, 0, none⟩ → g < w.heap.size → A = some ⟨g, 0, none⟩) : Apt A' B := fun g h1 h2 => by
  subst h2
  exact hp g (h4 g h1 h.lt.2) rfl
theorem os_form {w : World} {A : Option Addr} {b c : Nat} {l : List Str} (h : OS w b A c l) : A = none ∨ ∃ g, A = some ⟨g, 0, none⟩ := by
  rcases h.form with ⟨rfl, _⟩ | ⟨g, rfl, _⟩
  · exact .inl rfl
  · exact .inr ⟨g, rfl⟩
theorem bothI_get {g : Bool → Bool → Bool} {n k : Nat} {i j : List Bool} (hk : k < n) : (bothI g n i j)[k]? = some (g (i.getD k false) (j.getD k false)) := by
  unfold bothI
  rw [List.getElem?_map, List.getElem?_range hk]; rfl
theorem bothI_len (g : Bool → Bool → Bool) (n : Nat) (i j : List Bool) : (bothI g n i j).length = n := by simp [bothI]
theorem projI_len (u : List K) (i : List Bool) (v : List K) : (projI u i v).length = v.length := by simp [projI]
theorem projI_get {u v : List K} {i : List Bool} {k : Nat} (hk : k < v.length) : (projI u i v).getD k false = hasB u i (v.getD k []) := by
  unfold projI
  rw [List.getD_eq_getElem?_getD, List.getElem?_map, List.getElem?_range hk]; rfl
def sbP (u : List K) (i : List Bool) (v : List K) (j : List Bool) (k : Nat) : Bool := (List.range k).all fun t => !(i.getD t false) || hasB v j (u.getD t [])
theorem sbP_succ {u v : List K} {i j : List Bool} {k : Nat} {a b : Bool} (ha : i.getD k false = a) (hb : hasB v j (u.getD k []) = b) : sbP u i v j (k + 1) = (sbP u i v j k && (!a || b)) := by
  unfold sbP
  rw [List.range_succ, List.all_append]
  simp only [List.all_cons, List.all_nil, Bool.and_true, ha, hb]
theorem sbP_end (u : List K) (i : List Bool) (v : List K) (j : List Bool) : sbP u i v j u.length = subB u i v j := rfl
/-- what a set says of its own symbols -/
theorem has_self {v : List K} {j : List Bool} {k : Nat} (h : twB v = false) (hk : k < v.length) : hasB v j (v.getD k []) = j.getD k false := by
  have hnd : v.Nodup := by unfold twB at h; simpa using h
  have hg : v.getD k [] = v[k] := by rw [List.getD_eq_getElem?_getD, List.getElem?_eq_getElem hk]; rfl
  unfold hasB
  rw [hg, decide_eq_true (List.getElem_mem hk), hnd.idxOf_getElem k hk]; rfl
theorem bothI_same {g : Bool → Bool → Bool} {n : Nat} {u : List K} {i j : List Bool} (h : twB u = false) (hl : u.length = n) : bothI g n i (projI u j u) = bothI g n i j := by
  unfold bothI
  refine List.map_congr_left fun k hk => ?_
  rw [List.mem_range] at hk
  rw [projI_get (by omega), has_self h (by omega)]
theorem ne_b (A D : Option Addr) (c d n m : Nat) (a b : List Str) (w : World) (hn : n = a.length) (hm : m = b.length) (hab : ¬ ks a = ks b) (ha : RS w w.heap.size A c a) (hb : RS w w.heap.size D d b) :
    Calls Try.prog 16 #[.slice A n c, .slice D m d] w fun e w' => e = .returned (.bool false) ∧ Below w.heap.size w w' := by
  have h := sametexts_any A D c d n m a b w hn hm ha hb
  rw [decide_eq_false hab] at h
  refine h.mono ?_
  rintro e w' ⟨rfl, q, rfl⟩
  exact ⟨rfl, bdN (Below.refl _ _) q⟩

set_option maxRecDepth 100000 in
set_option maxHeartbeats 32000000 in
theorem enumSets_walk (A : Option Addr) (c : Nat) (u : List Str) (D : Option Addr) (d : Nat) (i : List Bool) (E : Option Addr) (e0 : Nat) (v : List Str) (H : Option Addr) (h0 : Nat) (j : List Bool) (w : World)
    (hu : RS w w.heap.size A c u) (hi : RBo w w.heap.size D d i) (hv : RS w w.heap.size E e0 v) (hj : RBo w w.heap.size H h0 j) :
    Calls Try.prog 5 #[.slice A u.length c, .slice D i.length d, .slice E v.length e0, .slice H j.length h0] w fun e w' => e = .returned (.bool true) ∧ Below w.heap.size w w' := by
  have hbu : u.length ≤ 140737488351232 := hu.big
  have hbi : i.length ≤ 140737488351232 := hi.big
  have hbv : v.length ≤ 140737488351232 := hv.big
  have hbj : j.length ≤ 140737488351232 := hj.big
  have B1 := bal w (.cells #[.slice A u.length c, .slice D i.length d] 25)
  have B2 := bal (w.alloc (.cells #[.slice A u.length c, .slice D i.length d] 25)) (.cells #[.slice E v.length e0, .slice H j.length h0] 25)
  have sa := SC.new w (.slice A u.length c) (.slice D i.length d) 25
  have sb := SC.new (w.alloc (.cells #[.slice A u.length c, .slice D i.length d] 25)) (.slice E v.length e0) (.slice H j.length h0) 25
  have z1 : (w.alloc (.cells #[.slice A u.length c, .slice D i.length d] 25)).heap.size = w.heap.size + 1 := by simp
  rw [z1] at sb
  have fU := fun w' x y z t => union_any A D E H c d e0 h0 u i v j w' x y z t
  have fM := fun w' x y z t => meet_any A D E H c d e0 h0 u i v j w' x y z t
  have fN := fun w' x y z t => minus_any A D E H c d e0 h0 u i v j w' x y z t
  have fC := fun w' x y => complement_any A D c d u i w' x y
  have fS := fun w' x y z t => subset_any A D E H c d e0 h0 u i v j w' x y z t
  have fP := fun w' x y z t => project_any A D E H c d e0 h0 u i v j w' x y z t
  have fa := fun w' x y => rsound_any A D c d _ _ u i w' rfl rfl x y
  have fb := fun w' x y => rsound_any E H e0 h0 _ _ v j w' rfl rfl x y
  cases ha : sdB (ks u) i with
  | false =>
    have hab : (sdB (ks u) i && sdB (ks v) j) = false := by rw [ha]; rfl
    have haa : (sdB (ks u) i && sdB (ks u) i) = false := by rw [ha]; rfl
    have vU : bothA (fun x y => x || y) u i v j = ([], [], 2) := bothA_no hab
    simp only [vU] at fU
    have vM : bothA (fun x y => x && y) u i v j = ([], [], 2) := bothA_no hab
    simp only [vM] at fM
    have vN : bothA (fun x y => x && !y) u i v j = ([], [], 2) := bothA_no hab
    simp only [vN] at fN
    have vC : bothA (fun x _ => !x) u i u i = ([], [], 2) := bothA_no haa
    simp only [vC] at fC
    have vS : subA u i v j = (false, 2) := by unfold subA; rw [hab]; rfl
    simp only [vS] at fS
    have vP : projA u i v j = ([], [], 2) := by unfold projA; rw [hab]; rfl
    simp only [vP] at fP
    simp only [ha] at fa
    clear ha hab haa vU vM vN vC vS vP
    go_enter Try.func5, Try.ntmps5
    have ma2 := (sa.nx B2).1
    have mb2 := (sa.nx B2).2.1
    have na2 := (sb.nx (Below.refl _ _)).1
    have nb2 := (sb.nx (Below.refl _ _)).2.1
    go_wp2_with fail
    refine (fU _ (st hu (bt B1 B2)) (st hi (bt B1 B2)) (st hv (bt B1 B2)) (st hj (bt B1 B2))).mono ?_; rintro e w3 ⟨AU, cU, DU, dU, rfl, OU, PU, B3⟩
    have sU := SC.new w3 (.slice AU 0 cU) (.slice DU 0 dU) 25
    have B4 := bal w3 (.cells #[.slice AU 0 cU, .slice DU 0 dU] 25)
    have ma4 := (sa.nx (bt (bt B2 B3) B4)).1
    have mb4 := (sa.nx (bt (bt B2 B3) B4)).2.1
    have na4 := (sb.nx (bt B3 B4)).1
    have nb4 := (sb.nx (bt B3 B4)).2.1
    go_wp2_with fail
    refine (fM _ (st hu (bt (bt (bt B1 B2) B3) B4)) (st hi (bt (bt (bt B1 B2) B3) B4)) (st hv (bt (bt (bt B1 B2) B3) B4)) (st hj (bt (bt (bt B1 B2) B3) B4))).mono ?_; rintro e w5 ⟨AM, cM, DM, dM, rfl, OM, PM, B5⟩
    have sM := SC.new w5 (.slice AM 0 cM) (.slice DM 0 dM) 25
    have B6 := bal w5 (.cells #[.slice AM 0 cM, .slice DM 0 dM] 25)
    have ma6 := (sa.nx (bt (bt (bt (bt B2 B3) B4) B5) B6)).1
    have mb6 := (sa.nx (bt (bt (bt (bt B2 B3) B4) B5) B6)).2.1
    have na6 := (sb.nx (bt (bt (bt B3 B4) B5) B6)).1
    have nb6 := (sb.nx (bt (bt (bt B3 B4) B5) B6)).2.1
    go_wp2_with fail
    refine (fN _ (st hu (bt (bt (bt (bt (bt B1 B2) B3) B4) B5) B6)) (st hi (bt (bt (bt (bt (bt B1 B2) B3) B4) B5) B6)) (st hv (bt (bt (bt (bt (bt B1 B2) B3) B4) B5) B6)) (st hj (bt (bt (bt (bt (bt B1 B2) B3) B4) B5) B6))).mono ?_; rintro e w7 ⟨AN, cN, DN, dN, rfl, ON, PN, B7⟩
    have sN := SC.new w7 (.slice AN 0 cN) (.slice DN 0 dN) 25
    have B8 := bal w7 (.cells #[.slice AN 0 cN, .slice DN 0 dN] 25)
    have ma8 := (sa.nx (bt (bt (bt (bt (bt (bt B2 B3) B4) B5) B6) B7) B8)).1
    have mb8 := (sa.nx (bt (bt (bt (bt (bt (bt B2 B3) B4) B5) B6) B7) B8)).2.1
    have na8 := (sb.nx (bt (bt (bt (bt (bt B3 B4) B5) B6) B7) B8)).1
    have nb8 := (sb.nx (bt (bt (bt (bt (bt B3 B4) B5) B6) B7) B8)).2.1
    go_wp2_with fail
    refine (fC _ (st hu (bt (bt (bt (bt (bt (bt (bt B1 B2) B3) B4) B5) B6) B7) B8)) (st hi (bt (bt (bt (bt (bt (bt (bt B1 B2) B3) B4) B5) B6) B7) B8))).mono ?_; rintro e w9 ⟨AC, cC, DC, dC, rfl, OC, PC, B9⟩
    have sC := SC.new w9 (.slice AC 0 cC) (.slice DC 0 dC) 25
    have B10 := bal w9 (.cells #[.slice AC 0 cC, .slice DC 0 dC] 25)
    have ma10 := (sa.nx (bt (bt (bt (bt (bt (bt (bt (bt B2 B3) B4) B5) B6) B7) B8) B9) B10)).1
    have mb10 := (sa.nx (bt (bt (bt (bt (bt (bt (bt (bt B2 B3) B4) B5) B6) B7) B8) B9) B10)).2.1
    have na10 := (sb.nx (bt (bt (bt (bt (bt (bt (bt B3 B4) B5) B6) B7) B8) B9) B10)).1
    have nb10 := (sb.nx (bt (bt (bt (bt (bt (bt (bt B3 B4) B5) B6) B7) B8) B9) B10)).2.1
    go_wp2_with fail
    refine (fS _ (st hu (bt (bt (bt (bt (bt (bt (bt (bt (bt B1 B2) B3) B4) B5) B6) B7) B8) B9) B10)) (st hi (bt (bt (bt (bt (bt (bt (bt (bt (bt B1 B2) B3) B4) B5) B6) B7) B8) B9) B10)) (st hv (bt (bt (bt (bt (bt (bt (bt (bt (bt B1 B2) B3) B4) B5) B6) B7) B8) B9) B10)) (st hj (bt (bt (bt (bt (bt (bt (bt (bt (bt B1 B2) B3) B4) B5) B6) B7) B8) B9) B10))).mono ?_; rintro e w11 ⟨rfl, B11⟩
    have ma11 := (sa.nx (bt (bt (bt (bt (bt (bt (bt (bt (bt B2 B3) B4) B5) B6) B7) B8) B9) B10) B11)).1
    have mb11 := (sa.nx (bt (bt (bt (bt (bt (bt (bt (bt (bt B2 B3) B4) B5) B6) B7) B8) B9) B10) B11)).2.1
    have na11 := (sb.nx (bt (bt (bt (bt (bt (bt (bt (bt B3 B4) B5) B6) B7) B8) B9) B10) B11)).1
    have nb11 := (sb.nx (bt (bt (bt (bt (bt (bt (bt (bt B3 B4) B5) B6) B7) B8) B9) B10) B11)).2.1
    go_wp2_with fail
    refine (fP _ (st hu (bt (bt (bt (bt (bt (bt (bt (bt (bt (bt B1 B2) B3) B4) B5) B6) B7) B8) B9) B10) B11)) (st hi (bt (bt (bt (bt (bt (bt (bt (bt (bt (bt B1 B2) B3) B4) B5) B6) B7) B8) B9) B10) B11)) (st hv (bt (bt (bt (bt (bt (bt (bt (bt (bt (bt B1 B2) B3) B4) B5) B6) B7) B8) B9) B10) B11)) (st hj (bt (bt (bt (bt (bt (bt (bt (bt (bt (bt B1 B2) B3) B4) B5) B6) B7) B8) B9) B10) B11))).mono ?_; rintro e w12 ⟨AP, cP, DP, dP, rfl, OP, PP, B12⟩
    have sP := SC.new w12 (.slice AP 0 cP) (.slice DP 0 dP) 25
    have B13 := bal w12 (.cells #[.slice AP 0 cP, .slice DP 0 dP] 25)
    go_wp2_with fail
    refine (awake_any _).mono ?_; rintro e w14 ⟨rfl, B14⟩
    go_wp2_with fail
    refine (fa _ (st hu (bt (bt (bt (bt (bt (bt (bt (bt (bt (bt (bt (bt (bt B1 B2) B3) B4) B5) B6) B7) B8) B9) B10) B11) B12) B13) B14)) (st hi (bt (bt (bt (bt (bt (bt (bt (bt (bt (bt (bt (bt (bt B1 B2) B3) B4) B5) B6) B7) B8) B9) B10) B11) B12) B13) B14))).mono ?_; rintro e w' ⟨rfl, rfl⟩
    go_wp2_with fail
    refine (fa _ (st hu (bt (bt (bt (bt (bt (bt (bt (bt (bt (bt (bt (bt (bt B1 B2) B3) B4) B5) B6) B7) B8) B9) B10) B11) B12) B13) B14)) (st hi (bt (bt (bt (bt (bt (bt (bt (bt (bt (bt (bt (bt (bt B1 B2) B3) B4) B5) B6) B7) B8) B9) B10) B11) B12) B13) B14))).mono ?_; rintro e w' ⟨rfl, rfl⟩
    go_wp2_with fail
    go_ret
    exact ⟨rfl, (bt (bt (bt (bt (bt (bt (bt (bt (bt (bt (bt (bt (bt B1 B2) B3) B4) B5) B6) B7) B8) B9) B10) B11) B12) B13) B14)⟩
  | true =>
    have haa : (sdB (ks u) i && sdB (ks u) i) = true := by rw [ha]; rfl
    have vC : bothA (fun x _ => !x) u i u i = (u, bothI (fun x _ => !x) u.length i i, 0) := bothA_eq haa rfl
    have lC := bothI_len (fun x _ => !x) u.length i i
    simp only [vC] at fC
    simp only [ha] at fa
    cases hb : sdB (ks v) j with
    | false =>
      have hab : (sdB (ks u) i && sdB (ks v) j) = false := by rw [ha, hb]; rfl
      have vU : bothA (fun x y => x || y) u i v j = ([], [], 2) := bothA_no hab
      simp only [vU] at fU
      have vM : bothA (fun x y => x && y) u i v j = ([], [], 2) := bothA_no hab
      simp only [vM] at fM
      have vN : bothA (fun x y => x && !y) u i v j = ([], [], 2) := bothA_no hab
      simp only [vN] at fN
      have vS : subA u i v j = (false, 2) := by unfold subA; rw [hab]; rfl
      simp only [vS] at fS
      have vP : projA u i v j = ([], [], 2) := by unfold projA; rw [hab]; rfl
      simp only [vP] at fP
      simp only [hb] at fb
      clear ha hb hab haa vU vM vN vC vS vP
      go_enter Try.func5, Try.ntmps5
      have ma2 := (sa.nx B2).1
      have mb2 := (sa.nx B2).2.1
      have na2 := (sb.nx (Below.refl _ _)).1
      have nb2 := (sb.nx (Below.refl _ _)).2.1
      go_wp2_with fail
      refine (fU _ (st hu (bt B1 B2)) (st hi (bt B1 B2)) (st hv (bt B1 B2)) (st hj (bt B1 B2))).mono ?_; rintro e w3 ⟨AU, cU, DU, dU, rfl, OU, PU, B3⟩
      have sU := SC.new w3 (.slice AU 0 cU) (.slice DU 0 dU) 25
      have B4 := bal w3 (.cells #[.slice AU 0 cU, .slice DU 0 dU] 25)
      have ma4 := (sa.nx (bt (bt B2 B3) B4)).1
      have mb4 := (sa.nx (bt (bt B2 B3) B4)).2.1
      have na4 := (sb.nx (bt B3 B4)).1
      have nb4 := (sb.nx (bt B3 B4)).2.1
      go_wp2_with fail
      refine (fM _ (st hu (bt (bt (bt B1 B2) B3) B4)) (st hi (bt (bt (bt B1 B2) B3) B4)) (st hv (bt (bt (bt B1 B2) B3) B4)) (st hj (bt (bt (bt B1 B2) B3) B4))).mono ?_; rintro e w5 ⟨AM, cM, DM, dM, rfl, OM, PM, B5⟩
      have sM := SC.new w5 (.slice AM 0 cM) (.slice DM 0 dM) 25
      have B6 := bal w5 (.cells #[.slice AM 0 cM, .slice DM 0 dM] 25)
      have ma6 := (sa.nx (bt (bt (bt (bt B2 B3) B4) B5) B6)).1
      have mb6 := (sa.nx (bt (bt (bt (bt B2 B3) B4) B5) B6)).2.1
      have na6 := (sb.nx (bt (bt (bt B3 B4) B5) B6)).1
      have nb6 := (sb.nx (bt (bt (bt B3 B4) B5) B6)).2.1
      go_wp2_with fail
      refine (fN _ (st hu (bt (bt (bt (bt (bt B1 B2) B3) B4) B5) B6)) (st hi (bt (bt (bt (bt (bt B1 B2) B3) B4) B5) B6)) (st hv (bt (bt (bt (bt (bt B1 B2) B3) B4) B5) B6)) (st hj (bt (bt (bt (bt (bt B1 B2) B3) B4) B5) B6))).mono ?_; rintro e w7 ⟨AN, cN, DN, dN, rfl, ON, PN, B7⟩
      have sN := SC.new w7 (.slice AN 0 cN) (.slice DN 0 dN) 25
      have B8 := bal w7 (.cells #[.slice AN 0 cN, .slice DN 0 dN] 25)
      have ma8 := (sa.nx (bt (bt (bt (bt (bt (bt B2 B3) B4) B5) B6) B7) B8)).1
      have mb8 := (sa.nx (bt (bt (bt (bt (bt (bt B2 B3) B4) B5) B6) B7) B8)).2.1
      have na8 := (sb.nx (bt (bt (bt (bt (bt B3 B4) B5) B6) B7) B8)).1
      have nb8 := (sb.nx (bt (bt (bt (bt (bt B3 B4) B5) B6) B7) B8)).2.1
      go_wp2_with fail
      refine (fC _ (st hu (bt (bt (bt (bt (bt (bt (bt B1 B2) B3) B4) B5) B6) B7) B8)) (st hi (bt (bt (bt (bt (bt (bt (bt B1 B2) B3) B4) B5) B6) B7) B8))).mono ?_; rintro e w9 ⟨AC, cC, DC, dC, rfl, OC, PC, B9⟩
      have sC := SC.new w9 (.slice AC u.length cC) (.slice DC u.length dC) 25
      have B10 := bal w9 (.cells #[.slice AC u.length cC, .slice DC u.length dC] 25)
      have ma10 := (sa.nx (bt (bt (bt (bt (bt (bt (bt (bt B2 B3) B4) B5) B6) B7) B8) B9) B10)).1
      have mb10 := (sa.nx (bt (bt (bt (bt (bt (bt (bt (bt B2 B3) B4) B5) B6) B7) B8) B9) B10)).2.1
      have na10 := (sb.nx (bt (bt (bt (bt (bt (bt (bt B3 B4) B5) B6) B7) B8) B9) B10)).1
      have nb10 := (sb.nx (bt (bt (bt (bt (bt (bt (bt B3 B4) B5) B6) B7) B8) B9) B10)).2.1
      go_wp2_with fail
      refine (fS _ (st hu (bt (bt (bt (bt (bt (bt (bt (bt (bt B1 B2) B3) B4) B5) B6) B7) B8) B9) B10)) (st hi (bt (bt (bt (bt (bt (bt (bt (bt (bt B1 B2) B3) B4) B5) B6) B7) B8) B9) B10)) (st hv (bt (bt (bt (bt (bt (bt (bt (bt (bt B1 B2) B3) B4) B5) B6) B7) B8) B9) B10)) (st hj (bt (bt (bt (bt (bt (bt (bt (bt (bt B1 B2) B3) B4) B5) B6) B7) B8) B9) B10))).mono ?_; rintro e w11 ⟨rfl, B11⟩
      have ma11 := (sa.nx (bt (bt (bt (bt (bt (bt (bt (bt (bt B2 B3) B4) B5) B6) B7) B8) B9) B10) B11)).1
      have mb11 := (sa.nx (bt (bt (bt (bt (bt (bt (bt (bt (bt B2 B3) B4) B5) B6) B7) B8) B9) B10) B11)).2.1
      have na11 := (sb.nx (bt (bt (bt (bt (bt (bt (bt (bt B3 B4) B5) B6) B7) B8) B9) B10) B11)).1
      have nb11 := (sb.nx (bt (bt (bt (bt (bt (bt (bt (bt B3 B4) B5) B6) B7) B8) B9) B10) B11)).2.1
      go_wp2_with fail
      refine (fP _ (st hu (bt (bt (bt (bt (bt (bt (bt (bt (bt (bt B1 B2) B3) B4) B5) B6) B7) B8) B9) B10) B11)) (st hi (bt (bt (bt (bt (bt (bt (bt (bt (bt (bt B1 B2) B3) B4) B5) B6) B7) B8) B9) B10) B11)) (st hv (bt (bt (bt (bt (bt (bt (bt (bt (bt (bt B1 B2) B3) B4) B5) B6) B7) B8) B9) B10) B11)) (st hj (bt (bt (bt (bt (bt (bt (bt (bt (bt (bt B1 B2) B3) B4) B5) B6) B7) B8) B9) B10) B11))).mono ?_; rintro e w12 ⟨AP, cP, DP, dP, rfl, OP, PP, B12⟩
      have sP := SC.new w12 (.slice AP 0 cP) (.slice DP 0 dP) 25
      have B13 := bal w12 (.cells #[.slice AP 0 cP, .slice DP 0 dP] 25)
      go_wp2_with fail
      refine (awake_any _).mono ?_; rintro e w14 ⟨rfl, B14⟩
      go_wp2_with fail
      refine (fa _ (st hu (bt (bt (bt (bt (bt (bt (bt (bt (bt (bt (bt (bt (bt B1 B2) B3) B4) B5) B6) B7) B8) B9) B10) B11) B12) B13) B14)) (st hi (bt (bt (bt (bt (bt (bt (bt (bt (bt (bt (bt (bt (bt B1 B2) B3) B4) B5) B6) B7) B8) B9) B10) B11) B12) B13) B14))).mono ?_; rintro e w' ⟨rfl, rfl⟩
      go_wp2_with fail
      refine (fb _ (st hv (bt (bt (bt (bt (bt (bt (bt (bt (bt (bt (bt (bt (bt B1 B2) B3) B4) B5) B6) B7) B8) B9) B10) B11) B12) B13) B14)) (st hj (bt (bt (bt (bt (bt (bt (bt (bt (bt (bt (bt (bt (bt B1 B2) B3) B4) B5) B6) B7) B8) B9) B10) B11) B12) B13) B14))).mono ?_; rintro e w' ⟨rfl, rfl⟩
      go_wp2_with fail
      refine (fa _ (st hu (bt (bt (bt (bt (bt (bt (bt (bt (bt (bt (bt (bt (bt B1 B2) B3) B4) B5) B6) B7) B8) B9) B10) B11) B12) B13) B14)) (st hi (bt (bt (bt (bt (bt (bt (bt (bt (bt (bt (bt (bt (bt B1 B2) B3) B4) B5) B6) B7) B8) B9) B10) B11) B12) B13) B14))).mono ?_; rintro e w' ⟨rfl, rfl⟩
      go_wp2_with fail
      go_ret
      exact ⟨rfl, (bt (bt (bt (bt (bt (bt (bt (bt (bt (bt (bt (bt (bt B1 B2) B3) B4) B5) B6) B7) B8) B9) B10) B11) B12) B13) B14)⟩
    | true =>
      have hab : (sdB (ks u) i && sdB (ks v) j) = true := by rw [ha, hb]; rfl
      have la := sdB_len ha
      have lb := sdB_len hb
      rw [ks_length] at la lb
      have HIL := Lib.hid la.2.1
      have HJL := Lib.hid lb.2.1
      have HTW := Lib.hid la.2.2
      have HTV := Lib.hid lb.2.2
      have hu64 := la.1
      have hv64 := lb.1
      have hil1 : u.length ≤ i.length := by omega
      have HSA := Lib.hid ha
      have vP : projA u i v j = (v, projI (ks u) i (ks v), 0) := by unfold projA; rw [hab]; rfl
      have lP := projI_len (ks u) i (ks v)
      rw [ks_length] at lP
      simp only [vP] at fP
      have vS : subA u i v j = (subB (ks u) i (ks v) j, 0) := by unfold subA; rw [hab]; rfl
      simp only [vS] at fS
      simp only [hb] at fb
      have fh := fun y w' x z => rhas_any E H e0 h0 _ _ v j y w' rfl rfl HJL.out x z
      have fh2 := fun y w' x z => rhas_any A D c d _ _ u i y w' rfl rfl HIL.out x z
      obtain ⟨O, hO⟩ : ∃ O, O = projI (ks v) j (ks u) := ⟨_, rfl⟩
      have hOg : Hid (∀ (k : Nat) (y : Str), u[k]? = some y → O.getD k false = hasB (ks v) j y.toList ∧ (ks u).getD k [] = y.toList) := fun k y hy => by
        have hg : (ks u).getD k [] = y.toList := by rw [List.getD_eq_getElem?_getD, ks_get hy]; rfl
        have hk := (List.getElem?_eq_some_iff.1 hy).1
        rw [hO, projI_get (by rw [ks_length]; exact hk), hg]
        exact ⟨rfl, rfl⟩
      have HO := Lib.hid hO
      have HLB := Lib.hid hb
      have hpg : Hid (∀ (k : Nat) (y : Str), v[k]? = some y → (projI (ks u) i (ks v))[k]? = some (hasB (ks u) i y.toList)) := fun k y hy => by
        have hg : (ks v).getD k [] = y.toList := by rw [List.getD_eq_getElem?_getD, ks_get hy]; rfl
        have hk := (List.getElem?_eq_some_iff.1 hy).1
        unfold projI
        rw [List.getElem?_map, List.getElem?_range (by rw [ks_length]; exact hk)]
        simp only [Option.map_some]
        rw [hg]
      clear ha hb haa la lb hO vC vP vS
      by_cases heq : ks u = ks v
      · skip
        have vU : bothA (fun x y => x || y) u i v j = (u, bothI (fun x y => x || y) u.length i j, 0) := bothA_eq hab heq
        have lU := bothI_len (fun x y => x || y) u.length i j
        simp only [vU] at fU
        have vM : bothA (fun x y => x && y) u i v j = (u, bothI (fun x y => x && y) u.length i j, 0) := bothA_eq hab heq
        have lM := bothI_len (fun x y => x && y) u.length i j
        simp only [vM] at fM
        have vN : bothA (fun x y => x && !y) u i v j = (u, bothI (fun x y => x && !y) u.length i j, 0) := bothA_eq hab heq
        have lN := bothI_len (fun x y => x && !y) u.length i j
        simp only [vN] at fN
        have HEQ := Lib.hid heq
        have HAB := Lib.hid hab
        clear heq hab vU vM vN
        go_enter Try.func5, Try.ntmps5
        have ma2 := (sa.nx B2).1
        have mb2 := (sa.nx B2).2.1
        have na2 := (sb.nx (Below.refl _ _)).1
        have nb2 := (sb.nx (Below.refl _ _)).2.1
        go_wp2_with fail
        refine (fU _ (st hu (bt B1 B2)) (st hi (bt B1 B2)) (st hv (bt B1 B2)) (st hj (bt B1 B2))).mono ?_; rintro e w3 ⟨AU, cU, DU, dU, rfl, OU, PU, B3⟩
        have sU := SC.new w3 (.slice AU u.length cU) (.slice DU u.length dU) 25
        have B4 := bal w3 (.cells #[.slice AU u.length cU, .slice DU u.length dU] 25)
        have ma4 := (sa.nx (bt (bt B2 B3) B4)).1
        have mb4 := (sa.nx (bt (bt B2 B3) B4)).2.1
        have na4 := (sb.nx (bt B3 B4)).1
        have nb4 := (sb.nx (bt B3 B4)).2.1
        go_wp2_with fail
        refine (fM _ (st hu (bt (bt (bt B1 B2) B3) B4)) (st hi (bt (bt (bt B1 B2) B3) B4)) (st hv (bt (bt (bt B1 B2) B3) B4)) (st hj (bt (bt (bt B1 B2) B3) B4))).mono ?_; rintro e w5 ⟨AM, cM, DM, dM, rfl, OM, PM, B5⟩
        have sM := SC.new w5 (.slice AM u.length cM) (.slice DM u.length dM) 25
        have B6 := bal w5 (.cells #[.slice AM u.length cM, .slice DM u.length dM] 25)
        have ma6 := (sa.nx (bt (bt (bt (bt B2 B3) B4) B5) B6)).1
        have mb6 := (sa.nx (bt (bt (bt (bt B2 B3) B4) B5) B6)).2.1
        have na6 := (sb.nx (bt (bt (bt B3 B4) B5) B6)).1
        have nb6 := (sb.nx (bt (bt (bt B3 B4) B5) B6)).2.1
        go_wp2_with fail
        refine (fN _ (st hu (bt (bt (bt (bt (bt B1 B2) B3) B4) B5) B6)) (st hi (bt (bt (bt (bt (bt B1 B2) B3) B4) B5) B6)) (st hv (bt (bt (bt (bt (bt B1 B2) B3) B4) B5) B6)) (st hj (bt (bt (bt (bt (bt B1 B2) B3) B4) B5) B6))).mono ?_; rintro e w7 ⟨AN, cN, DN, dN, rfl, ON, PN, B7⟩
        have sN := SC.new w7 (.slice AN u.length cN) (.slice DN u.length dN) 25
        have B8 := bal w7 (.cells #[.slice AN u.length cN, .slice DN u.length dN] 25)
        have ma8 := (sa.nx (bt (bt (bt (bt (bt (bt B2 B3) B4) B5) B6) B7) B8)).1
        have mb8 := (sa.nx (bt (bt (bt (bt (bt (bt B2 B3) B4) B5) B6) B7) B8)).2.1
        have na8 := (sb.nx (bt (bt (bt (bt (bt B3 B4) B5) B6) B7) B8)).1
        have nb8 := (sb.nx (bt (bt (bt (bt (bt B3 B4) B5) B6) B7) B8)).2.1
        go_wp2_with fail
        refine (fC _ (st hu (bt (bt (bt (bt (bt (bt (bt B1 B2) B3) B4) B5) B6) B7) B8)) (st hi (bt (bt (bt (bt (bt (bt (bt B1 B2) B3) B4) B5) B6) B7) B8))).mono ?_; rintro e w9 ⟨AC, cC, DC, dC, rfl, OC, PC, B9⟩
        have sC := SC.new w9 (.slice AC u.length cC) (.slice DC u.length dC) 25
        have B10 := bal w9 (.cells #[.slice AC u.length cC, .slice DC u.length dC] 25)
        have ma10 := (sa.nx (bt (bt (bt (bt (bt (bt (bt (bt B2 B3) B4) B5) B6) B7) B8) B9) B10)).1
        have mb10 := (sa.nx (bt (bt (bt (bt (bt (bt (bt (bt B2 B3) B4) B5) B6) B7) B8) B9) B10)).2.1
        have na10 := (sb.nx (bt (bt (bt (bt (bt (bt (bt B3 B4) B5) B6) B7) B8) B9) B10)).1
        have nb10 := (sb.nx (bt (bt (bt (bt (bt (bt (bt B3 B4) B5) B6) B7) B8) B9) B10)).2.1
        go_wp2_with fail
        refine (fS _ (st hu (bt (bt (bt (bt (bt (bt (bt (bt (bt B1 B2) B3) B4) B5) B6) B7) B8) B9) B10)) (st hi (bt (bt (bt (bt (bt (bt (bt (bt (bt B1 B2) B3) B4) B5) B6) B7) B8) B9) B10)) (st hv (bt (bt (bt (bt (bt (bt (bt (bt (bt B1 B2) B3) B4) B5) B6) B7) B8) B9) B10)) (st hj (bt (bt (bt (bt (bt (bt (bt (bt (bt B1 B2) B3) B4) B5) B6) B7) B8) B9) B10))).mono ?_; rintro e w11 ⟨rfl, B11⟩
        have ma11 := (sa.nx (bt (bt (bt (bt (bt (bt (bt (bt (bt B2 B3) B4) B5) B6) B7) B8) B9) B10) B11)).1
        have mb11 := (sa.nx (bt (bt (bt (bt (bt (bt (bt (bt (bt B2 B3) B4) B5) B6) B7) B8) B9) B10) B11)).2.1
        have na11 := (sb.nx (bt (bt (bt (bt (bt (bt (bt (bt B3 B4) B5) B6) B7) B8) B9) B10) B11)).1
        have nb11 := (sb.nx (bt (bt (bt (bt (bt (bt (bt (bt B3 B4) B5) B6) B7) B8) B9) B10) B11)).2.1
        go_wp2_with fail
        refine (fP _ (st hu (bt (bt (bt (bt (bt (bt (bt (bt (bt (bt B1 B2) B3) B4) B5) B6) B7) B8) B9) B10) B11)) (st hi (bt (bt (bt (bt (bt (bt (bt (bt (bt (bt B1 B2) B3) B4) B5) B6) B7) B8) B9) B10) B11)) (st hv (bt (bt (bt (bt (bt (bt (bt (bt (bt (bt B1 B2) B3) B4) B5) B6) B7) B8) B9) B10) B11)) (st hj (bt (bt (bt (bt (bt (bt (bt (bt (bt (bt B1 B2) B3) B4) B5) B6) B7) B8) B9) B10) B11))).mono ?_; rintro e w12 ⟨AP, cP, DP, dP, rfl, OP, PP, B12⟩
        have sP := SC.new w12 (.slice AP v.length cP) (.slice DP v.length dP) 25
        have B13 := bal w12 (.cells #[.slice AP v.length cP, .slice DP v.length dP] 25)
        go_wp2_with fail
        refine (awake_any _).mono ?_; rintro e w14 ⟨rfl, B14⟩
        go_wp2_with fail
        refine (fa _ (st hu (bt (bt (bt (bt (bt (bt (bt (bt (bt (bt (bt (bt (bt B1 B2) B3) B4) B5) B6) B7) B8) B9) B10) B11) B12) B13) B14)) (st hi (bt (bt (bt (bt (bt (bt (bt (bt (bt (bt (bt (bt (bt B1 B2) B3) B4) B5) B6) B7) B8) B9) B10) B11) B12) B13) B14))).mono ?_; rintro e w' ⟨rfl, rfl⟩
        go_wp2_with fail
        refine (fb _ (st hv (bt (bt (bt (bt (bt (bt (bt (bt (bt (bt (bt (bt (bt B1 B2) B3) B4) B5) B6) B7) B8) B9) B10) B11) B12) B13) B14)) (st hj (bt (bt (bt (bt (bt (bt (bt (bt (bt (bt (bt (bt (bt B1 B2) B3) B4) B5) B6) B7) B8) B9) B10) B11) B12) B13) B14))).mono ?_; rintro e w' ⟨rfl, rfl⟩
        have C14 := (bt (bt (bt (bt (bt (bt (bt (bt (bt (bt (bt (bt (bt B1 B2) B3) B4) B5) B6) B7) B8) B9) B10) B11) B12) B13) B14)
        have y1 := bal w14 (.cells #[] 9)
        have y2 := bal (w14.alloc (.cells #[] 9)) (.cells #[] 9)
        have y3 := bal ((w14.alloc (.cells #[] 9)).alloc (.cells #[] 9)) (.cells #[] 9)
        have y4 := bal (((w14.alloc (.cells #[] 9)).alloc (.cells #[] 9)).alloc (.cells #[] 9)) (.cells #[] 9)
        have R1 := OS.empty w14
        have S1 := (((R1.alloc (.cells #[] 9)).alloc (.cells #[] 9)).alloc (.cells #[] 9))
        have R2 := OS.empty (w14.alloc (.cells #[] 9))
        rw [show (w14.alloc (.cells #[] 9)).heap.size = w14.heap.size + 1 by simp] at R2
        have S2 := ((R2.alloc (.cells #[] 9)).alloc (.cells #[] 9)).base_le (show w14.heap.size ≤ w14.heap.size + 1 by omega)
        have R3 := OS.empty ((w14.alloc (.cells #[] 9)).alloc (.cells #[] 9))
        rw [show ((w14.alloc (.cells #[] 9)).alloc (.cells #[] 9)).heap.size = w14.heap.size + 2 by simp] at R3
        have S3 := (R3.alloc (.cells #[] 9)).base_le (show w14.heap.size ≤ w14.heap.size + 2 by omega)
        have R4 := OS.empty (((w14.alloc (.cells #[] 9)).alloc (.cells #[] 9)).alloc (.cells #[] 9))
        rw [show (((w14.alloc (.cells #[] 9)).alloc (.cells #[] 9)).alloc (.cells #[] 9)).heap.size = w14.heap.size + 3 by simp] at R4
        have S4 := R4.base_le (show w14.heap.size ≤ w14.heap.size + 3 by omega)
        have BL := (bt (bt (bt y1 y2) y3) y4)
        clear R1 R2 R3 R4 y1 y2 y3 y4
        go_wp2_with fail
        go_loopg [23, 24, 25, 26, 27, 28] u.length (fun gg x1 x2 x3 x4 sv n wr => ∃ (k : Nat) (A1 : Option Addr) (c1 : Nat) (l1 : List Str) (A2 : Option Addr) (c2 : Nat) (l2 : List Str) (A3 : Option Addr) (c3 : Nat) (l3 : List Str) (A4 : Option Addr) (c4 : Nat) (l4 : List Str), k ≤ u.length ∧ u.length - k = gg ∧ n = .int .i64 (k : Int) ∧ x1 = .slice A1 l1.length c1 ∧ x2 = .slice A2 l2.length c2 ∧ x3 = .slice A3 l3.length c3 ∧ x4 = .slice A4 l4.length c4 ∧ sv = .bool (sbP (ks u) i (ks v) j k) ∧ OS wr w14.heap.size A1 c1 l1 ∧ OS wr w14.heap.size A2 c2 l2 ∧ OS wr w14.heap.size A3 c3 l3 ∧ OS wr w14.heap.size A4 c4 l4 ∧ l1.length ≤ k ∧ l2.length ≤ k ∧ l3.length ≤ k ∧ l4.length ≤ k ∧ Hid (l1 = msel (u.take k) ((bothI (fun x y => x || y) u.length i O).take k)) ∧ Hid (l2 = msel (u.take k) ((bothI (fun x y => x && y) u.length i O).take k)) ∧ Hid (l3 = msel (u.take k) ((bothI (fun x y => x && !y) u.length i O).take k)) ∧ Hid (l4 = msel (u.take k) ((bothI (fun x _ => !x) u.length i O).take k)) ∧ Apt A1 A2 ∧ Apt A1 A3 ∧ Apt A1 A4 ∧ Apt A2 A3 ∧ Apt A2 A4 ∧ Apt A3 A4 ∧ Below w14.heap.size w14 wr)
        case atStart => exact ⟨0, some ⟨w14.heap.size, 0, none⟩, 0, [], some ⟨w14.heap.size + 1, 0, none⟩, 0, [], some ⟨w14.heap.size + 2, 0, none⟩, 0, [], some ⟨w14.heap.size + 3, 0, none⟩, 0, [], Nat.zero_le _, rfl, rfl, rfl, rfl, rfl, rfl, rfl, S1, S2, S3, S4, Nat.le_refl _, Nat.le_refl _, Nat.le_refl _, Nat.le_refl _, (by show _ = _; simp [msel]), (by show _ = _; simp [msel]), (by show _ = _; simp [msel]), (by show _ = _; simp [msel]), Apt.mk (by omega), Apt.mk (by omega), Apt.mk (by omega), Apt.mk (by omega), Apt.mk (by omega), Apt.mk (by omega), BL⟩
        case round =>
          obtain ⟨k, A1, c1, l1, A2, c2, l2, A3, c3, l3, A4, c4, l4, hk, rfl, rfl, rfl, rfl, rfl, rfl, rfl, O1, O2, O3, O4, L1, L2, L3, L4, E1, E2, E3, E4, P12, P13, P14, P23, P24, P34, Bw⟩ := hrel
          have Cw := bt C14 Bw
          by_cases h1 : k < u.length
          · obtain ⟨b1, o1, rfl, hlt1, hx⟩ := hu.at_ (by omega)
            obtain ⟨y, hy⟩ : ∃ y, u[k]? = some y := ⟨_, List.getElem?_eq_getElem h1⟩
            have hx0 := hx k y hy
            change _ = some (Value.string y) at hx0
            have hki : k < i.length := by omega
            obtain ⟨b2, o2, rfl, hlt2, hyy⟩ := hi.at_ (by omega)
            have hy0 := hyy k i[k] (List.getElem?_eq_getElem hki)
            change _ = some (Value.bool i[k]) at hy0
            rw [show i[k] = i.getD k false by rw [List.getD_eq_getElem?_getD, List.getElem?_eq_getElem hki]; rfl] at hy0
            have hh := fh y wr (st hv Cw) (st hj Cw)
            obtain ⟨hg1, hg2⟩ := hOg.out k y hy
            have cu := (Cw.cell (p := ⟨b1, o1 + k, none⟩) hlt1).trans hx0
            have ci := (Cw.cell (p := ⟨b2, o2 + k, none⟩) hlt2).trans hy0
            clear hx hyy
            cases hbo2 : hasB (ks v) j y.toList with
            | false =>
              rw [hbo2] at hg1
              have hbo := hg1
              rw [hbo2] at hh
              cases hbi : i.getD k false with
              | false =>
                rw [hbi] at hy0 ci
                have e1 := msel_step hy (bothI_get (g := (fun x y => x || y)) (n := u.length) (i := i) (j := O) h1)
                rw [hbi, hbo, ← E1.out] at e1
                have F1 := Lib.hid e1
                clear e1
                have e2 := msel_step hy (bothI_get (g := (fun x y => x && y)) (n := u.length) (i := i) (j := O) h1)
                rw [hbi, hbo, ← E2.out] at e2
                have F2 := Lib.hid e2
                clear e2
                have e3 := msel_step hy (bothI_get (g := (fun x y => x && !y)) (n := u.length) (i := i) (j := O) h1)
                rw [hbi, hbo, ← E3.out] at e3
                have F3 := Lib.hid e3
                clear e3
                have e4 := msel_step hy (bothI_get (g := (fun x _ => !x)) (n := u.length) (i := i) (j := O) h1)
                rw [hbi, ← E4.out] at e4
                have F4 := Lib.hid e4
                clear e4
                have es := sbP_succ (u := ks u) (v := ks v) (j := j) (b := false) hbi (by rw [hg2]; exact hbo2)
                have FS := Lib.hid es
                clear es hbi hbo hbo2 hg2 hg1 hy
                go_wp2_with fail
                refine hh.mono ?_; rintro e w' ⟨rfl, rfl⟩
                have Bx1 := Bw.alloc Bw.size (.cells #[.string y] 9)
                have hone1 := RS.one wr 9 y
                go_wp2_with (first
                  | (at_builtin; refine wp_appT _ rfl _ _ rfl w14.heap.size _ _ _ l4 rfl rfl (O4.alloc _) _ _ _ [y] rfl rfl _ hone1 (by simp; omega) Bx1.size ?_; intro X1 x1 v1 g1_1 g2_1 g3_1 g4_1; have Bw1 := Bx1.trans g3_1; have Cw1 := bt C14 Bw1; have cu1 := (Cw1.cell (p := ⟨b1, o1 + k, none⟩) hlt1).trans hx0; have ci1 := (Cw1.cell (p := ⟨b2, o2 + k, none⟩) hlt2).trans hy0; have fo1 := os_form O4; have N1_1 := apt_keep (O1.alloc (.cells #[.string y] 9)) P14.symm g2_1 (fun _ => .inr (.inr trivial)) fo1; have Q1_1 := apt_new (O1.alloc (.cells #[.string y] 9)) P14.symm g4_1; have N2_1 := apt_keep (O2.alloc (.cells #[.string y] 9)) P24.symm g2_1 (fun _ => .inr (.inr trivial)) fo1; have Q2_1 := apt_new (O2.alloc (.cells #[.string y] 9)) P24.symm g4_1; have N3_1 := apt_keep (O3.alloc (.cells #[.string y] 9)) P34.symm g2_1 (fun _ => .inr (.inr trivial)) fo1; have Q3_1 := apt_new (O3.alloc (.cells #[.string y] 9)) P34.symm g4_1))
                go_roundg (u.length - (k + 1))
                case measure => omega
                case rel => exact ⟨k + 1, A1, c1, l1, A2, c2, l2, A3, c3, l3, X1, x1, (l4 ++ [y]), by omega, rfl, by go_num, by simp, by simp, by simp, by simp, by rw [FS.out]; simp, N1_1, N2_1, N3_1, g1_1, by first | omega | (simp; omega), by first | omega | (simp; omega), by first | omega | (simp; omega), by first | omega | (simp; omega), by show _ = _; rw [F1.out]; simp, by show _ = _; rw [F2.out]; simp, by show _ = _; rw [F3.out]; simp, by show _ = _; rw [F4.out]; simp, P12, P13, Q1_1.symm, P23, Q2_1.symm, Q3_1.symm, Bw1⟩
              | true =>
                rw [hbi] at hy0 ci
                have e1 := msel_step hy (bothI_get (g := (fun x y => x || y)) (n := u.length) (i := i) (j := O) h1)
                rw [hbi, hbo, ← E1.out] at e1
                have F1 := Lib.hid e1
                clear e1
                have e2 := msel_step hy (bothI_get (g := (fun x y => x && y)) (n := u.length) (i := i) (j := O) h1)
                rw [hbi, hbo, ← E2.out] at e2
                have F2 := Lib.hid e2
                clear e2
                have e3 := msel_step hy (bothI_get (g := (fun x y => x && !y)) (n := u.length) (i := i) (j := O) h1)
                rw [hbi, hbo, ← E3.out] at e3
                have F3 := Lib.hid e3
                clear e3
                have e4 := msel_step hy (bothI_get (g := (fun x _ => !x)) (n := u.length) (i := i) (j := O) h1)
                rw [hbi, ← E4.out] at e4
                have F4 := Lib.hid e4
                clear e4
                have es := sbP_succ (u := ks u) (v := ks v) (j := j) (b := false) hbi (by rw [hg2]; exact hbo2)
                have FS := Lib.hid es
                clear es hbi hbo hbo2 hg2 hg1 hy
                go_wp2_with fail
                refine hh.mono ?_; rintro e w' ⟨rfl, rfl⟩
                have Bx1 := Bw.alloc Bw.size (.cells #[.string y] 9)
                have hone1 := RS.one wr 9 y
                go_wp2_with (first
                  | (at_builtin; refine wp_appT _ rfl _ _ rfl w14.heap.size _ _ _ l1 rfl rfl (O1.alloc _) _ _ _ [y] rfl rfl _ hone1 (by simp; omega) Bx1.size ?_; intro X1 x1 v1 g1_1 g2_1 g3_1 g4_1; have Bw1 := Bx1.trans g3_1; have Cw1 := bt C14 Bw1; have cu1 := (Cw1.cell (p := ⟨b1, o1 + k, none⟩) hlt1).trans hx0; have ci1 := (Cw1.cell (p := ⟨b2, o2 + k, none⟩) hlt2).trans hy0; have fo1 := os_form O1; have N2_1 := apt_keep (O2.alloc (.cells #[.string y] 9)) P12 g2_1 (fun _ => .inr (.inr trivial)) fo1; have Q2_1 := apt_new (O2.alloc (.cells #[.string y] 9)) P12 g4_1; have N3_1 := apt_keep (O3.alloc (.cells #[.string y] 9)) P13 g2_1 (fun _ => .inr (.inr trivial)) fo1; have Q3_1 := apt_new (O3.alloc (.cells #[.string y] 9)) P13 g4_1; have N4_1 := apt_keep (O4.alloc (.cells #[.string y] 9)) P14 g2_1 (fun _ => .inr (.inr trivial)) fo1; have Q4_1 := apt_new (O4.alloc (.cells #[.string y] 9)) P14 g4_1; have Bx2 := Bw1.alloc Bw1.size (.cells #[.string y] 9); have hone2 := RS.one v1 9 y)
                  | (at_builtin; refine wp_appT _ rfl _ _ rfl w14.heap.size _ _ _ l3 rfl rfl (N3_1.alloc _) _ _ _ [y] rfl rfl _ hone2 (by simp; omega) Bx2.size ?_; intro X2 x2 v2 g1_2 g2_2 g3_2 g4_2; have Bw2 := Bx2.trans g3_2; have Cw2 := bt C14 Bw2; have cu2 := (Cw2.cell (p := ⟨b1, o1 + k, none⟩) hlt1).trans hx0; have ci2 := (Cw2.cell (p := ⟨b2, o2 + k, none⟩) hlt2).trans hy0; have fo2 := os_form N3_1; have N1_2 := apt_keep (g1_1.alloc (.cells #[.string y] 9)) Q3_1.symm g2_2 (fun _ => .inr (.inr trivial)) fo2; have Q1_2 := apt_new (g1_1.alloc (.cells #[.string y] 9)) Q3_1.symm g4_2; have N2_2 := apt_keep (N2_1.alloc (.cells #[.string y] 9)) P23.symm g2_2 (fun _ => .inr (.inr trivial)) fo2; have Q2_2 := apt_new (N2_1.alloc (.cells #[.string y] 9)) P23.symm g4_2; have N4_2 := apt_keep (N4_1.alloc (.cells #[.string y] 9)) P34 g2_2 (fun _ => .inr (.inr trivial)) fo2; have Q4_2 := apt_new (N4_1.alloc (.cells #[.string y] 9)) P34 g4_2))
                go_roundg (u.length - (k + 1))
                case measure => omega
                case rel => exact ⟨k + 1, X1, x1, (l1 ++ [y]), A2, c2, l2, X2, x2, (l3 ++ [y]), A4, c4, l4, by omega, rfl, by go_num, by simp, by simp, by simp, by simp, by rw [FS.out]; simp, N1_2, N2_2, g1_2, N4_2, by first | omega | (simp; omega), by first | omega | (simp; omega), by first | omega | (simp; omega), by first | omega | (simp; omega), by show _ = _; rw [F1.out]; simp, by show _ = _; rw [F2.out]; simp, by show _ = _; rw [F3.out]; simp, by show _ = _; rw [F4.out]; simp, Q2_1, Q1_2.symm, Q4_1, Q2_2.symm, P24, Q4_2, Bw2⟩
            | true =>
              rw [hbo2] at hg1
              have hbo := hg1
              rw [hbo2] at hh
              cases hbi : i.getD k false with
              | false =>
                rw [hbi] at hy0 ci
                have e1 := msel_step hy (bothI_get (g := (fun x y => x || y)) (n := u.length) (i := i) (j := O) h1)
                rw [hbi, hbo, ← E1.out] at e1
                have F1 := Lib.hid e1
                clear e1
                have e2 := msel_step hy (bothI_get (g := (fun x y => x && y)) (n := u.length) (i := i) (j := O) h1)
                rw [hbi, hbo, ← E2.out] at e2
                have F2 := Lib.hid e2
                clear e2
                have e3 := msel_step hy (bothI_get (g := (fun x y => x && !y)) (n := u.length) (i := i) (j := O) h1)
                rw [hbi, hbo, ← E3.out] at e3
                have F3 := Lib.hid e3
                clear e3
                have e4 := msel_step hy (bothI_get (g := (fun x _ => !x)) (n := u.length) (i := i) (j := O) h1)
                rw [hbi, ← E4.out] at e4
                have F4 := Lib.hid e4
                clear e4
                have es := sbP_succ (u := ks u) (v := ks v) (j := j) (b := true) hbi (by rw [hg2]; exact hbo2)
                have FS := Lib.hid es
                clear es hbi hbo hbo2 hg2 hg1 hy
                go_wp2_with fail
                refine hh.mono ?_; rintro e w' ⟨rfl, rfl⟩
                have Bx1 := Bw.alloc Bw.size (.cells #[.string y] 9)
                have hone1 := RS.one wr 9 y
                go_wp2_with (first
                  | (at_builtin; refine wp_appT _ rfl _ _ rfl w14.heap.size _ _ _ l1 rfl rfl (O1.alloc _) _ _ _ [y] rfl rfl _ hone1 (by simp; omega) Bx1.size ?_; intro X1 x1 v1 g1_1 g2_1 g3_1 g4_1; have Bw1 := Bx1.trans g3_1; have Cw1 := bt C14 Bw1; have cu1 := (Cw1.cell (p := ⟨b1, o1 + k, none⟩) hlt1).trans hx0; have ci1 := (Cw1.cell (p := ⟨b2, o2 + k, none⟩) hlt2).trans hy0; have fo1 := os_form O1; have N2_1 := apt_keep (O2.alloc (.cells #[.string y] 9)) P12 g2_1 (fun _ => .inr (.inr trivial)) fo1; have Q2_1 := apt_new (O2.alloc (.cells #[.string y] 9)) P12 g4_1; have N3_1 := apt_keep (O3.alloc (.cells #[.string y] 9)) P13 g2_1 (fun _ => .inr (.inr trivial)) fo1; have Q3_1 := apt_new (O3.alloc (.cells #[.string y] 9)) P13 g4_1; have N4_1 := apt_keep (O4.alloc (.cells #[.string y] 9)) P14 g2_1 (fun _ => .inr (.inr trivial)) fo1; have Q4_1 := apt_new (O4.alloc (.cells #[.string y] 9)) P14 g4_1; have Bx2 := Bw1.alloc Bw1.size (.cells #[.string y] 9); have hone2 := RS.one v1 9 y)
                  | (at_builtin; refine wp_appT _ rfl _ _ rfl w14.heap.size _ _ _ l4 rfl rfl (N4_1.alloc _) _ _ _ [y] rfl rfl _ hone2 (by simp; omega) Bx2.size ?_; intro X2 x2 v2 g1_2 g2_2 g3_2 g4_2; have Bw2 := Bx2.trans g3_2; have Cw2 := bt C14 Bw2; have cu2 := (Cw2.cell (p := ⟨b1, o1 + k, none⟩) hlt1).trans hx0; have ci2 := (Cw2.cell (p := ⟨b2, o2 + k, none⟩) hlt2).trans hy0; have fo2 := os_form N4_1; have N1_2 := apt_keep (g1_1.alloc (.cells #[.string y] 9)) Q4_1.symm g2_2 (fun _ => .inr (.inr trivial)) fo2; have Q1_2 := apt_new (g1_1.alloc (.cells #[.string y] 9)) Q4_1.symm g4_2; have N2_2 := apt_keep (N2_1.alloc (.cells #[.string y] 9)) P24.symm g2_2 (fun _ => .inr (.inr trivial)) fo2; have Q2_2 := apt_new (N2_1.alloc (.cells #[.string y] 9)) P24.symm g4_2; have N3_2 := apt_keep (N3_1.alloc (.cells #[.string y] 9)) P34.symm g2_2 (fun _ => .inr (.inr trivial)) fo2; have Q3_2 := apt_new (N3_1.alloc (.cells #[.string y] 9)) P34.symm g4_2))
                go_roundg (u.length - (k + 1))
                case measure => omega
                case rel => exact ⟨k + 1, X1, x1, (l1 ++ [y]), A2, c2, l2, A3, c3, l3, X2, x2, (l4 ++ [y]), by omega, rfl, by go_num, by simp, by simp, by simp, by simp, by rw [FS.out]; simp, N1_2, N2_2, N3_2, g1_2, by first | omega | (simp; omega), by first | omega | (simp; omega), by first | omega | (simp; omega), by first | omega | (simp; omega), by show _ = _; rw [F1.out]; simp, by show _ = _; rw [F2.out]; simp, by show _ = _; rw [F3.out]; simp, by show _ = _; rw [F4.out]; simp, Q2_1, Q3_1, Q1_2.symm, P23, Q2_2.symm, Q3_2.symm, Bw2⟩
              | true =>
                rw [hbi] at hy0 ci
                have e1 := msel_step hy (bothI_get (g := (fun x y => x || y)) (n := u.length) (i := i) (j := O) h1)
                rw [hbi, hbo, ← E1.out] at e1
                have F1 := Lib.hid e1
                clear e1
                have e2 := msel_step hy (bothI_get (g := (fun x y => x && y)) (n := u.length) (i := i) (j := O) h1)
                rw [hbi, hbo, ← E2.out] at e2
                have F2 := Lib.hid e2
                clear e2
                have e3 := msel_step hy (bothI_get (g := (fun x y => x && !y)) (n := u.length) (i := i) (j := O) h1)
                rw [hbi, hbo, ← E3.out] at e3
                have F3 := Lib.hid e3
                clear e3
                have e4 := msel_step hy (bothI_get (g := (fun x _ => !x)) (n := u.length) (i := i) (j := O) h1)
                rw [hbi, ← E4.out] at e4
                have F4 := Lib.hid e4
                clear e4
                have es := sbP_succ (u := ks u) (v := ks v) (j := j) (b := true) hbi (by rw [hg2]; exact hbo2)
                have FS := Lib.hid es
                clear es hbi hbo hbo2 hg2 hg1 hy
                go_wp2_with fail
                refine hh.mono ?_; rintro e w' ⟨rfl, rfl⟩
                have Bx1 := Bw.alloc Bw.size (.cells #[.string y] 9)
                have hone1 := RS.one wr 9 y
                go_wp2_with (first
                  | (at_builtin; refine wp_appT _ rfl _ _ rfl w14.heap.size _ _ _ l1 rfl rfl (O1.alloc _) _ _ _ [y] rfl rfl _ hone1 (by simp; omega) Bx1.size ?_; intro X1 x1 v1 g1_1 g2_1 g3_1 g4_1; have Bw1 := Bx1.trans g3_1; have Cw1 := bt C14 Bw1; have cu1 := (Cw1.cell (p := ⟨b1, o1 + k, none⟩) hlt1).trans hx0; have ci1 := (Cw1.cell (p := ⟨b2, o2 + k, none⟩) hlt2).trans hy0; have fo1 := os_form O1; have N2_1 := apt_keep (O2.alloc (.cells #[.string y] 9)) P12 g2_1 (fun _ => .inr (.inr trivial)) fo1; have Q2_1 := apt_new (O2.alloc (.cells #[.string y] 9)) P12 g4_1; have N3_1 := apt_keep (O3.alloc (.cells #[.string y] 9)) P13 g2_1 (fun _ => .inr (.inr trivial)) fo1; have Q3_1 := apt_new (O3.alloc (.cells #[.string y] 9)) P13 g4_1; have N4_1 := apt_keep (O4.alloc (.cells #[.string y] 9)) P14 g2_1 (fun _ => .inr (.inr trivial)) fo1; have Q4_1 := apt_new (O4.alloc (.cells #[.string y] 9)) P14 g4_1; have Bx2 := Bw1.alloc Bw1.size (.cells #[.string y] 9); have hone2 := RS.one v1 9 y)
                  | (at_builtin; refine wp_appT _ rfl _ _ rfl w14.heap.size _ _ _ l2 rfl rfl (N2_1.alloc _) _ _ _ [y] rfl rfl _ hone2 (by simp; omega) Bx2.size ?_; intro X2 x2 v2 g1_2 g2_2 g3_2 g4_2; have Bw2 := Bx2.trans g3_2; have Cw2 := bt C14 Bw2; have cu2 := (Cw2.cell (p := ⟨b1, o1 + k, none⟩) hlt1).trans hx0; have ci2 := (Cw2.cell (p := ⟨b2, o2 + k, none⟩) hlt2).trans hy0; have fo2 := os_form N2_1; have N1_2 := apt_keep (g1_1.alloc (.cells #[.string y] 9)) Q2_1.symm g2_2 (fun _ => .inr (.inr trivial)) fo2; have Q1_2 := apt_new (g1_1.alloc (.cells #[.string y] 9)) Q2_1.symm g4_2; have N3_2 := apt_keep (N3_1.alloc (.cells #[.string y] 9)) P23 g2_2 (fun _ => .inr (.inr trivial)) fo2; have Q3_2 := apt_new (N3_1.alloc (.cells #[.string y] 9)) P23 g4_2; have N4_2 := apt_keep (N4_1.alloc (.cells #[.string y] 9)) P24 g2_2 (fun _ => .inr (.inr trivial)) fo2; have Q4_2 := apt_new (N4_1.alloc (.cells #[.string y] 9)) P24 g4_2))
                go_roundg (u.length - (k + 1))
                case measure => omega
                case rel => exact ⟨k + 1, X1, x1, (l1 ++ [y]), X2, x2, (l2 ++ [y]), A3, c3, l3, A4, c4, l4, by omega, rfl, by go_num, by simp, by simp, by simp, by simp, by rw [FS.out]; simp, N1_2, g1_2, N3_2, N4_2, by first | omega | (simp; omega), by first | omega | (simp; omega), by first | omega | (simp; omega), by first | omega | (simp; omega), by show _ = _; rw [F1.out]; simp, by show _ = _; rw [F2.out]; simp, by show _ = _; rw [F3.out]; simp, by show _ = _; rw [F4.out]; simp, Q1_2.symm, Q3_1, Q4_1, Q3_2, Q4_2, P34, Bw2⟩
          · obtain rfl : k = u.length := by omega
            have hsub : sbP (ks u) i (ks v) j u.length = subB (ks u) i (ks v) j := by rw [← ks_length u]; rfl
            rw [hsub]
            clear hsub
            obtain ⟨wq, hwq⟩ : ∃ wq, wq = wr := ⟨_, rfl⟩
            subst hwq
            have HL1 : Hid (l1 = msel u (bothI (fun x y => x || y) u.length i O)) := by show _ = _; rw [E1.out, msel_end (Nat.le_refl _) (by rw [bothI_len]; exact Nat.le_refl _)]
            have HL2 : Hid (l2 = msel u (bothI (fun x y => x && y) u.length i O)) := by show _ = _; rw [E2.out, msel_end (Nat.le_refl _) (by rw [bothI_len]; exact Nat.le_refl _)]
            have HL3 : Hid (l3 = msel u (bothI (fun x y => x && !y) u.length i O)) := by show _ = _; rw [E3.out, msel_end (Nat.le_refl _) (by rw [bothI_len]; exact Nat.le_refl _)]
            have HL4 : Hid (l4 = msel u (bothI (fun x _ => !x) u.length i O)) := by show _ = _; rw [E4.out, msel_end (Nat.le_refl _) (by rw [bothI_len]; exact Nat.le_refl _)]
            go_wp2_with fail
            go_loopg [30, 31] v.length (fun gg x5 n wr => ∃ (k : Nat) (A5 : Option Addr) (c5 : Nat) (l5 : List Str), k ≤ v.length ∧ v.length - k = gg ∧ n = .int .i64 (k : Int) ∧ x5 = .slice A5 l5.length c5 ∧ OS wr wq.heap.size A5 c5 l5 ∧ l5.length ≤ k ∧ Hid (l5 = msel (v.take k) ((projI (ks u) i (ks v)).take k)) ∧ Below wq.heap.size wq wr)
            case atStart => exact ⟨0, _, 0, [], Nat.zero_le _, rfl, rfl, rfl, OS.empty wq, Nat.le_refl _, (by show _ = _; simp [msel]), bal _ _⟩
            case round =>
              obtain ⟨k2, A5, c5, l5, hk2, rfl, rfl, rfl, O5, L5, E5, B16⟩ := hrel
              have Bz := bt Bw B16
              have C16 := bt C14 Bz
              by_cases h2 : k2 < v.length
              · obtain ⟨b1, o1, rfl, hlt1, hx⟩ := hv.at_ (by omega)
                obtain ⟨y, hy⟩ : ∃ y, v[k2]? = some y := ⟨_, List.getElem?_eq_getElem h2⟩
                have hx0 := hx k2 y hy
                change _ = some (Value.string y) at hx0
                have cv := (C16.cell (p := ⟨b1, o1 + k2, none⟩) hlt1).trans hx0
                have hh := fh2 y wr (st hu C16) (st hi C16)
                have e5 := msel_step hy (hpg.out k2 y hy)
                rw [← E5.out] at e5
                clear hx hy
                cases hb2 : hasB (ks u) i y.toList with
                | true =>
                  rw [hb2, if_pos rfl] at e5
                  rw [hb2] at hh
                  have F5 := Lib.hid e5
                  clear e5 hb2
                  have hone := RS.one wr 9 y
                  have Bx := B16.alloc B16.size (.cells #[.string y] 9)
                  go_wp2_with (first
                    | (at_builtin; refine wp_appS _ rfl _ _ rfl wq.heap.size _ _ _ l5 rfl rfl (O5.alloc _) _ _ _ [y] rfl rfl _ hone (by simp; omega) Bx.size ?_; intro X1 x1 v1 g1 g2 g3)
                    | (go_at_call 26; refine hh.mono ?_; rintro e w' ⟨rfl, rfl⟩))
                  go_roundg (v.length - (k2 + 1))
                  case measure => omega
                  case rel => exact ⟨k2 + 1, X1, x1, _, by omega, rfl, by go_num, by rw [List.length_append]; rfl, g1, by simp; omega, by show _ = _; rw [F5.out], Bx.trans g3⟩
                | false =>
                  rw [hb2, if_neg (by simp)] at e5
                  rw [hb2] at hh
                  have F5 := Lib.hid e5
                  clear e5 hb2
                  go_wp2_with fail
                  refine hh.mono ?_; rintro e w' ⟨rfl, rfl⟩
                  go_wp2_with fail
                  go_roundg (v.length - (k2 + 1))
                  case measure => omega
                  case rel => exact ⟨k2 + 1, A5, c5, l5, by omega, rfl, by go_num, rfl, O5, by omega, by show _ = _; rw [F5.out]; simp, B16⟩
              · obtain rfl : k2 = v.length := by omega
                have HL5 : Hid (l5 = msel v (projI (ks u) i (ks v))) := by show _ = _; rw [E5.out, msel_end (Nat.le_refl _) (by rw [lP]; exact Nat.le_refl _)]
                have qC1 := (sC.nx (bt (bt (bt (bt B11 B12) B13) B14) Bz)).1
                have qC2 := (sC.nx (bt (bt (bt (bt B11 B12) B13) B14) Bz)).2.1
                have isC := is_yes AC DC A A4 cC dC c c4 u.length u.length _ _ u (bothI (fun x _ => !x) u.length i i) u l4 wr rfl lC.symm rfl rfl (sdB_of HTW.out (by omega) lC) rfl (by rw [HL4.out, ks_msel]; rfl) (st OC.rl (bt (bt (bt (bt (bt B10 B11) B12) B13) B14) Bz)) (st PC.rl (bt (bt (bt (bt (bt B10 B11) B12) B13) B14) Bz)) (st hu C16) (O4.below B16 (Nat.le_refl _)).rl
                skip
                go_wp2_with fail
                refine isC.mono ?_; rintro e w17 ⟨rfl, B17⟩
                have qP1 := (sP.nx (bt (bt B14 Bz) B17)).1
                have qP2 := (sP.nx (bt (bt B14 Bz) B17)).2.1
                have isP := is_yes AP DP E A5 cP dP e0 c5 v.length v.length _ _ v (projI (ks u) i (ks v)) v l5 w17 rfl lP.symm rfl rfl (sdB_of HTV.out (by omega) lP) rfl (by rw [HL5.out, ks_msel]) (st OP.rl (bt (bt (bt B13 B14) Bz) B17)) (st PP.rl (bt (bt (bt B13 B14) Bz) B17)) (st hv (bt C16 B17)) (st O5.rl B17)
                go_wp2_with fail
                refine isP.mono ?_; rintro e w18 ⟨rfl, B18⟩
                have B178 := bt B17 B18
                go_wp2_with fail
                refine (same_b A E c e0 _ _ u v w18 rfl rfl HEQ.out (st hu (bt C16 B178)) (st hv (bt C16 B178))).mono ?_; rintro e w19 ⟨rfl, B19⟩
                have BA := bt B178 B19
                have hOB : ∀ g, bothI g u.length i O = bothI g u.length i j := fun g => by rw [HO.out, ← HEQ.out]; exact bothI_same HTW.out (ks_length u)
                have HOB := Lib.hid hOB
                clear hOB
                have qU1 := (sU.nx (bt (bt (bt (bt (bt (bt (bt (bt (bt (bt (bt B5 B6) B7) B8) B9) B10) B11) B12) B13) B14) Bz) BA)).1
                have qU2 := (sU.nx (bt (bt (bt (bt (bt (bt (bt (bt (bt (bt (bt B5 B6) B7) B8) B9) B10) B11) B12) B13) B14) Bz) BA)).2.1
                have isU := is_yes AU DU A A1 cU dU c c1 u.length u.length _ _ u (bothI (fun x y => x || y) u.length i j) u l1 w19 rfl lU.symm rfl rfl (sdB_of HTW.out (by omega) lU) rfl (by rw [HL1.out, ks_msel, HOB.out]) (st OU.rl (bt (bt (bt (bt (bt (bt (bt (bt (bt (bt (bt (bt B4 B5) B6) B7) B8) B9) B10) B11) B12) B13) B14) Bz) BA)) (st PU.rl (bt (bt (bt (bt (bt (bt (bt (bt (bt (bt (bt (bt B4 B5) B6) B7) B8) B9) B10) B11) B12) B13) B14) Bz) BA)) (st hu (bt C16 BA)) (st (O1.below B16 (Nat.le_refl _)).rl BA)
                go_wp2_with fail
                refine isU.mono ?_; rintro e w20 ⟨rfl, B20⟩
                have BA20 := bt BA B20
                have qM1 := (sM.nx (bt (bt (bt (bt (bt (bt (bt (bt (bt B7 B8) B9) B10) B11) B12) B13) B14) Bz) BA20)).1
                have qM2 := (sM.nx (bt (bt (bt (bt (bt (bt (bt (bt (bt B7 B8) B9) B10) B11) B12) B13) B14) Bz) BA20)).2.1
                have isM := is_yes AM DM A A2 cM dM c c2 u.length u.length _ _ u (bothI (fun x y => x && y) u.length i j) u l2 w20 rfl lM.symm rfl rfl (sdB_of HTW.out (by omega) lM) rfl (by rw [HL2.out, ks_msel, HOB.out]) (st OM.rl (bt (bt (bt (bt (bt (bt (bt (bt (bt (bt B6 B7) B8) B9) B10) B11) B12) B13) B14) Bz) BA20)) (st PM.rl (bt (bt (bt (bt (bt (bt (bt (bt (bt (bt B6 B7) B8) B9) B10) B11) B12) B13) B14) Bz) BA20)) (st hu (bt C16 BA20)) (st (O2.below B16 (Nat.le_refl _)).rl BA20)
                go_wp2_with fail
                refine isM.mono ?_; rintro e w21 ⟨rfl, B21⟩
                have BA21 := bt BA20 B21
                have qN1 := (sN.nx (bt (bt (bt (bt (bt (bt (bt B9 B10) B11) B12) B13) B14) Bz) BA21)).1
                have qN2 := (sN.nx (bt (bt (bt (bt (bt (bt (bt B9 B10) B11) B12) B13) B14) Bz) BA21)).2.1
                have isN := is_yes AN DN A A3 cN dN c c3 u.length u.length _ _ u (bothI (fun x y => x && !y) u.length i j) u l3 w21 rfl lN.symm rfl rfl (sdB_of HTW.out (by omega) lN) rfl (by rw [HL3.out, ks_msel, HOB.out]) (st ON.rl (bt (bt (bt (bt (bt (bt (bt (bt B8 B9) B10) B11) B12) B13) B14) Bz) BA21)) (st PN.rl (bt (bt (bt (bt (bt (bt (bt (bt B8 B9) B10) B11) B12) B13) B14) Bz) BA21)) (st hu (bt C16 BA21)) (st (O3.below B16 (Nat.le_refl _)).rl BA21)
                go_wp2_with fail
                refine isN.mono ?_; rintro e w22 ⟨rfl, B22⟩
                have BA22 := bt BA21 B22
                go_wp2_with fail
                go_ret
                exact ⟨rfl, bt C16 BA22⟩
      · skip
        have vU : bothA (fun x y => x || y) u i v j = ([], [], 10) := bothA_ne hab heq
        simp only [vU] at fU
        have vM : bothA (fun x y => x && y) u i v j = ([], [], 10) := bothA_ne hab heq
        simp only [vM] at fM
        have vN : bothA (fun x y => x && !y) u i v j = ([], [], 10) := bothA_ne hab heq
        simp only [vN] at fN
        have HEQ := Lib.hid heq
        have HAB := Lib.hid hab
        clear heq hab vU vM vN
        go_enter Try.func5, Try.ntmps5
        have ma2 := (sa.nx B2).1
        have mb2 := (sa.nx B2).2.1
        have na2 := (sb.nx (Below.refl _ _)).1
        have nb2 := (sb.nx (Below.refl _ _)).2.1
        go_wp2_with fail
        refine (fU _ (st hu (bt B1 B2)) (st hi (bt B1 B2)) (st hv (bt B1 B2)) (st hj (bt B1 B2))).mono ?_; rintro e w3 ⟨AU, cU, DU, dU, rfl, OU, PU, B3⟩
        have sU := SC.new w3 (.slice AU 0 cU) (.slice DU 0 dU) 25
        have B4 := bal w3 (.cells #[.slice AU 0 cU, .slice DU 0 dU] 25)
        have ma4 := (sa.nx (bt (bt B2 B3) B4)).1
        have mb4 := (sa.nx (bt (bt B2 B3) B4)).2.1
        have na4 := (sb.nx (bt B3 B4)).1
        have nb4 := (sb.nx (bt B3 B4)).2.1
        go_wp2_with fail
        refine (fM _ (st hu (bt (bt (bt B1 B2) B3) B4)) (st hi (bt (bt (bt B1 B2) B3) B4)) (st hv (bt (bt (bt B1 B2) B3) B4)) (st hj (bt (bt (bt B1 B2) B3) B4))).mono ?_; rintro e w5 ⟨AM, cM, DM, dM, rfl, OM, PM, B5⟩
        have sM := SC.new w5 (.slice AM 0 cM) (.slice DM 0 dM) 25
        have B6 := bal w5 (.cells #[.slice AM 0 cM, .slice DM 0 dM] 25)
        have ma6 := (sa.nx (bt (bt (bt (bt B2 B3) B4) B5) B6)).1
        have mb6 := (sa.nx (bt (bt (bt (bt B2 B3) B4) B5) B6)).2.1
        have na6 := (sb.nx (bt (bt (bt B3 B4) B5) B6)).1
        have nb6 := (sb.nx (bt (bt (bt B3 B4) B5) B6)).2.1
        go_wp2_with fail
        refine (fN _ (st hu (bt (bt (bt (bt (bt B1 B2) B3) B4) B5) B6)) (st hi (bt (bt (bt (bt (bt B1 B2) B3) B4) B5) B6)) (st hv (bt (bt (bt (bt (bt B1 B2) B3) B4) B5) B6)) (st hj (bt (bt (bt (bt (bt B1 B2) B3) B4) B5) B6))).mono ?_; rintro e w7 ⟨AN, cN, DN, dN, rfl, ON, PN, B7⟩
        have sN := SC.new w7 (.slice AN 0 cN) (.slice DN 0 dN) 25
        have B8 := bal w7 (.cells #[.slice AN 0 cN, .slice DN 0 dN] 25)
        have ma8 := (sa.nx (bt (bt (bt (bt (bt (bt B2 B3) B4) B5) B6) B7) B8)).1
        have mb8 := (sa.nx (bt (bt (bt (bt (bt (bt B2 B3) B4) B5) B6) B7) B8)).2.1
        have na8 := (sb.nx (bt (bt (bt (bt (bt B3 B4) B5) B6) B7) B8)).1
        have nb8 := (sb.nx (bt (bt (bt (bt (bt B3 B4) B5) B6) B7) B8)).2.1
        go_wp2_with fail
        refine (fC _ (st hu (bt (bt (bt (bt (bt (bt (bt B1 B2) B3) B4) B5) B6) B7) B8)) (st hi (bt (bt (bt (bt (bt (bt (bt B1 B2) B3) B4) B5) B6) B7) B8))).mono ?_; rintro e w9 ⟨AC, cC, DC, dC, rfl, OC, PC, B9⟩
        have sC := SC.new w9 (.slice AC u.length cC) (.slice DC u.length dC) 25
        have B10 := bal w9 (.cells #[.slice AC u.length cC, .slice DC u.length dC] 25)
        have ma10 := (sa.nx (bt (bt (bt (bt (bt (bt (bt (bt B2 B3) B4) B5) B6) B7) B8) B9) B10)).1
        have mb10 := (sa.nx (bt (bt (bt (bt (bt (bt (bt (bt B2 B3) B4) B5) B6) B7) B8) B9) B10)).2.1
        have na10 := (sb.nx (bt (bt (bt (bt (bt (bt (bt B3 B4) B5) B6) B7) B8) B9) B10)).1
        have nb10 := (sb.nx (bt (bt (bt (bt (bt (bt (bt B3 B4) B5) B6) B7) B8) B9) B10)).2.1
        go_wp2_with fail
        refine (fS _ (st hu (bt (bt (bt (bt (bt (bt (bt (bt (bt B1 B2) B3) B4) B5) B6) B7) B8) B9) B10)) (st hi (bt (bt (bt (bt (bt (bt (bt (bt (bt B1 B2) B3) B4) B5) B6) B7) B8) B9) B10)) (st hv (bt (bt (bt (bt (bt (bt (bt (bt (bt B1 B2) B3) B4) B5) B6) B7) B8) B9) B10)) (st hj (bt (bt (bt (bt (bt (bt (bt (bt (bt B1 B2) B3) B4) B5) B6) B7) B8) B9) B10))).mono ?_; rintro e w11 ⟨rfl, B11⟩
        have ma11 := (sa.nx (bt (bt (bt (bt (bt (bt (bt (bt (bt B2 B3) B4) B5) B6) B7) B8) B9) B10) B11)).1
        have mb11 := (sa.nx (bt (bt (bt (bt (bt (bt (bt (bt (bt B2 B3) B4) B5) B6) B7) B8) B9) B10) B11)).2.1
        have na11 := (sb.nx (bt (bt (bt (bt (bt (bt (bt (bt B3 B4) B5) B6) B7) B8) B9) B10) B11)).1
        have nb11 := (sb.nx (bt (bt (bt (bt (bt (bt (bt (bt B3 B4) B5) B6) B7) B8) B9) B10) B11)).2.1
        go_wp2_with fail
        refine (fP _ (st hu (bt (bt (bt (bt (bt (bt (bt (bt (bt (bt B1 B2) B3) B4) B5) B6) B7) B8) B9) B10) B11)) (st hi (bt (bt (bt (bt (bt (bt (bt (bt (bt (bt B1 B2) B3) B4) B5) B6) B7) B8) B9) B10) B11)) (st hv (bt (bt (bt (bt (bt (bt (bt (bt (bt (bt B1 B2) B3) B4) B5) B6) B7) B8) B9) B10) B11)) (st hj (bt (bt (bt (bt (bt (bt (bt (bt (bt (bt B1 B2) B3) B4) B5) B6) B7) B8) B9) B10) B11))).mono ?_; rintro e w12 ⟨AP, cP, DP, dP, rfl, OP, PP, B12⟩
        have sP := SC.new w12 (.slice AP v.length cP) (.slice DP v.length dP) 25
        have B13 := bal w12 (.cells #[.slice AP v.length cP, .slice DP v.length dP] 25)
        go_wp2_with fail
        refine (awake_any _).mono ?_; rintro e w14 ⟨rfl, B14⟩
        go_wp2_with fail
        refine (fa _ (st hu (bt (bt (bt (bt (bt (bt (bt (bt (bt (bt (bt (bt (bt B1 B2) B3) B4) B5) B6) B7) B8) B9) B10) B11) B12) B13) B14)) (st hi (bt (bt (bt (bt (bt (bt (bt (bt (bt (bt (bt (bt (bt B1 B2) B3) B4) B5) B6) B7) B8) B9) B10) B11) B12) B13) B14))).mono ?_; rintro e w' ⟨rfl, rfl⟩
        go_wp2_with fail
        refine (fb _ (st hv (bt (bt (bt (bt (bt (bt (bt (bt (bt (bt (bt (bt (bt B1 B2) B3) B4) B5) B6) B7) B8) B9) B10) B11) B12) B13) B14)) (st hj (bt (bt (bt (bt (bt (bt (bt (bt (bt (bt (bt (bt (bt B1 B2) B3) B4) B5) B6) B7) B8) B9) B10) B11) B12) B13) B14))).mono ?_; rintro e w' ⟨rfl, rfl⟩
        have C14 := (bt (bt (bt (bt (bt (bt (bt (bt (bt (bt (bt (bt (bt B1 B2) B3) B4) B5) B6) B7) B8) B9) B10) B11) B12) B13) B14)
        have y1 := bal w14 (.cells #[] 9)
        have y2 := bal (w14.alloc (.cells #[] 9)) (.cells #[] 9)
        have y3 := bal ((w14.alloc (.cells #[] 9)).alloc (.cells #[] 9)) (.cells #[] 9)
        have y4 := bal (((w14.alloc (.cells #[] 9)).alloc (.cells #[] 9)).alloc (.cells #[] 9)) (.cells #[] 9)
        have R1 := OS.empty w14
        have S1 := (((R1.alloc (.cells #[] 9)).alloc (.cells #[] 9)).alloc (.cells #[] 9))
        have R2 := OS.empty (w14.alloc (.cells #[] 9))
        rw [show (w14.alloc (.cells #[] 9)).heap.size = w14.heap.size + 1 by simp] at R2
        have S2 := ((R2.alloc (.cells #[] 9)).alloc (.cells #[] 9)).base_le (show w14.heap.size ≤ w14.heap.size + 1 by omega)
        have R3 := OS.empty ((w14.alloc (.cells #[] 9)).alloc (.cells #[] 9))
        rw [show ((w14.alloc (.cells #[] 9)).alloc (.cells #[] 9)).heap.size = w14.heap.size + 2 by simp] at R3
        have S3 := (R3.alloc (.cells #[] 9)).base_le (show w14.heap.size ≤ w14.heap.size + 2 by omega)
        have R4 := OS.empty (((w14.alloc (.cells #[] 9)).alloc (.cells #[] 9)).alloc (.cells #[] 9))
        rw [show (((w14.alloc (.cells #[] 9)).alloc (.cells #[] 9)).alloc (.cells #[] 9)).heap.size = w14.heap.size + 3 by simp] at R4
        have S4 := R4.base_le (show w14.heap.size ≤ w14.heap.size + 3 by omega)
        have BL := (bt (bt (bt y1 y2) y3) y4)
        clear R1 R2 R3 R4 y1 y2 y3 y4
        go_wp2_with fail
        go_loopg [23, 24, 25, 26, 27, 28] u.length (fun gg x1 x2 x3 x4 sv n wr => ∃ (k : Nat) (A1 : Option Addr) (c1 : Nat) (l1 : List Str) (A2 : Option Addr) (c2 : Nat) (l2 : List Str) (A3 : Option Addr) (c3 : Nat) (l3 : List Str) (A4 : Option Addr) (c4 : Nat) (l4 : List Str), k ≤ u.length ∧ u.length - k = gg ∧ n = .int .i64 (k : Int) ∧ x1 = .slice A1 l1.length c1 ∧ x2 = .slice A2 l2.length c2 ∧ x3 = .slice A3 l3.length c3 ∧ x4 = .slice A4 l4.length c4 ∧ sv = .bool (sbP (ks u) i (ks v) j k) ∧ OS wr w14.heap.size A1 c1 l1 ∧ OS wr w14.heap.size A2 c2 l2 ∧ OS wr w14.heap.size A3 c3 l3 ∧ OS wr w14.heap.size A4 c4 l4 ∧ l1.length ≤ k ∧ l2.length ≤ k ∧ l3.length ≤ k ∧ l4.length ≤ k ∧ Hid (l1 = msel (u.take k) ((bothI (fun x y => x || y) u.length i O).take k)) ∧ Hid (l2 = msel (u.take k) ((bothI (fun x y => x && y) u.length i O).take k)) ∧ Hid (l3 = msel (u.take k) ((bothI (fun x y => x && !y) u.length i O).take k)) ∧ Hid (l4 = msel (u.take k) ((bothI (fun x _ => !x) u.length i O).take k)) ∧ Apt A1 A2 ∧ Apt A1 A3 ∧ Apt A1 A4 ∧ Apt A2 A3 ∧ Apt A2 A4 ∧ Apt A3 A4 ∧ Below w14.heap.size w14 wr)
        case atStart => exact ⟨0, some ⟨w14.heap.size, 0, none⟩, 0, [], some ⟨w14.heap.size + 1, 0, none⟩, 0, [], some ⟨w14.heap.size + 2, 0, none⟩, 0, [], some ⟨w14.heap.size + 3, 0, none⟩, 0, [], Nat.zero_le _, rfl, rfl, rfl, rfl, rfl, rfl, rfl, S1, S2, S3, S4, Nat.le_refl _, Nat.le_refl _, Nat.le_refl _, Nat.le_refl _, (by show _ = _; simp [msel]), (by show _ = _; simp [msel]), (by show _ = _; simp [msel]), (by show _ = _; simp [msel]), Apt.mk (by omega), Apt.mk (by omega), Apt.mk (by omega), Apt.mk (by omega), Apt.mk (by omega), Apt.mk (by omega), BL⟩
        case round =>
          obtain ⟨k, A1, c1, l1, A2, c2, l2, A3, c3, l3, A4, c4, l4, hk, rfl, rfl, rfl, rfl, rfl, rfl, rfl, O1, O2, O3, O4, L1, L2, L3, L4, E1, E2, E3, E4, P12, P13, P14, P23, P24, P34, Bw⟩ := hrel
          have Cw := bt C14 Bw
          by_cases h1 : k < u.length
          · obtain ⟨b1, o1, rfl, hlt1, hx⟩ := hu.at_ (by omega)
            obtain ⟨y, hy⟩ : ∃ y, u[k]? = some y := ⟨_, List.getElem?_eq_getElem h1⟩
            have hx0 := hx k y hy
            change _ = some (Value.string y) at hx0
            have hki : k < i.length := by omega
            obtain ⟨b2, o2, rfl, hlt2, hyy⟩ := hi.at_ (by omega)
            have hy0 := hyy k i[k] (List.getElem?_eq_getElem hki)
            change _ = some (Value.bool i[k]) at hy0
            rw [show i[k] = i.getD k false by rw [List.getD_eq_getElem?_getD, List.getElem?_eq_getElem hki]; rfl] at hy0
            have hh := fh y wr (st hv Cw) (st hj Cw)
            obtain ⟨hg1, hg2⟩ := hOg.out k y hy
            have cu := (Cw.cell (p := ⟨b1, o1 + k, none⟩) hlt1).trans hx0
            have ci := (Cw.cell (p := ⟨b2, o2 + k, none⟩) hlt2).trans hy0
            clear hx hyy
            cases hbo2 : hasB (ks v) j y.toList with
            | false =>
              rw [hbo2] at hg1
              have hbo := hg1
              rw [hbo2] at hh
              cases hbi : i.getD k false with
              | false =>
                rw [hbi] at hy0 ci
                have e1 := msel_step hy (bothI_get (g := (fun x y => x || y)) (n := u.length) (i := i) (j := O) h1)
                rw [hbi, hbo, ← E1.out] at e1
                have F1 := Lib.hid e1
                clear e1
                have e2 := msel_step hy (bothI_get (g := (fun x y => x && y)) (n := u.length) (i := i) (j := O) h1)
                rw [hbi, hbo, ← E2.out] at e2
                have F2 := Lib.hid e2
                clear e2
                have e3 := msel_step hy (bothI_get (g := (fun x y => x && !y)) (n := u.length) (i := i) (j := O) h1)
                rw [hbi, hbo, ← E3.out] at e3
                have F3 := Lib.hid e3
                clear e3
                have e4 := msel_step hy (bothI_get (g := (fun x _ => !x)) (n := u.length) (i := i) (j := O) h1)
                rw [hbi, ← E4.out] at e4
                have F4 := Lib.hid e4
                clear e4
                have es := sbP_succ (u := ks u) (v := ks v) (j := j) (b := false) hbi (by rw [hg2]; exact hbo2)
                have FS := Lib.hid es
                clear es hbi hbo hbo2 hg2 hg1 hy
                go_wp2_with fail
                refine hh.mono ?_; rintro e w' ⟨rfl, rfl⟩
                have Bx1 := Bw.alloc Bw.size (.cells #[.string y] 9)
                have hone1 := RS.one wr 9 y
                go_wp2_with (first
                  | (at_builtin; refine wp_appT _ rfl _ _ rfl w14.heap.size _ _ _ l4 rfl rfl (O4.alloc _) _ _ _ [y] rfl rfl _ hone1 (by simp; omega) Bx1.size ?_; intro X1 x1 v1 g1_1 g2_1 g3_1 g4_1; have Bw1 := Bx1.trans g3_1; have Cw1 := bt C14 Bw1; have cu1 := (Cw1.cell (p := ⟨b1, o1 + k, none⟩) hlt1).trans hx0; have ci1 := (Cw1.cell (p := ⟨b2, o2 + k, none⟩) hlt2).trans hy0; have fo1 := os_form O4; have N1_1 := apt_keep (O1.alloc (.cells #[.string y] 9)) P14.symm g2_1 (fun _ => .inr (.inr trivial)) fo1; have Q1_1 := apt_new (O1.alloc (.cells #[.string y] 9)) P14.symm g4_1; have N2_1 := apt_keep (O2.alloc (.cells #[.string y] 9)) P24.symm g2_1 (fun _ => .inr (.inr trivial)) fo1; have Q2_1 := apt_new (O2.alloc (.cells #[.string y] 9)) P24.symm g4_1; have N3_1 := apt_keep (O3.alloc (.cells #[.string y] 9)) P34.symm g2_1 (fun _ => .inr (.inr trivial)) fo1; have Q3_1 := apt_new (O3.alloc (.cells #[.string y] 9)) P34.symm g4_1))
                go_roundg (u.length - (k + 1))
                case measure => omega
                case rel => exact ⟨k + 1, A1, c1, l1, A2, c2, l2, A3, c3, l3, X1, x1, (l4 ++ [y]), by omega, rfl, by go_num, by simp, by simp, by simp, by simp, by rw [FS.out]; simp, N1_1, N2_1, N3_1, g1_1, by first | omega | (simp; omega), by first | omega | (simp; omega), by first | omega | (simp; omega), by first | omega | (simp; omega), by show _ = _; rw [F1.out]; simp, by show _ = _; rw [F2.out]; simp, by show _ = _; rw [F3.out]; simp, by show _ = _; rw [F4.out]; simp, P12, P13, Q1_1.symm, P23, Q2_1.symm, Q3_1.symm, Bw1⟩
              | true =>
                rw [hbi] at hy0 ci
                have e1 := msel_step hy (bothI_get (g := (fun x y => x || y)) (n := u.length) (i := i) (j := O) h1)
                rw [hbi, hbo, ← E1.out] at e1
                have F1 := Lib.hid e1
                clear e1
                have e2 := msel_step hy (bothI_get (g := (fun x y => x && y)) (n := u.length) (i := i) (j := O) h1)
                rw [hbi, hbo, ← E2.out] at e2
                have F2 := Lib.hid e2
                clear e2
                have e3 := msel_step hy (bothI_get (g := (fun x y => x && !y)) (n := u.length) (i := i) (j := O) h1)
                rw [hbi, hbo, ← E3.out] at e3
                have F3 := Lib.hid e3
                clear e3
                have e4 := msel_step hy (bothI_get (g := (fun x _ => !x)) (n := u.length) (i := i) (j := O) h1)
                rw [hbi, ← E4.out] at e4
                have F4 := Lib.hid e4
                clear e4
                have es := sbP_succ (u := ks u) (v := ks v) (j := j) (b := false) hbi (by rw [hg2]; exact hbo2)
                have FS := Lib.hid es
                clear es hbi hbo hbo2 hg2 hg1 hy
                go_wp2_with fail
                refine hh.mono ?_; rintro e w' ⟨rfl, rfl⟩
                have Bx1 := Bw.alloc Bw.size (.cells #[.string y] 9)
                have hone1 := RS.one wr 9 y
                go_wp2_with (first
                  | (at_builtin; refine wp_appT _ rfl _ _ rfl w14.heap.size _ _ _ l1 rfl rfl (O1.alloc _) _ _ _ [y] rfl rfl _ hone1 (by simp; omega) Bx1.size ?_; intro X1 x1 v1 g1_1 g2_1 g3_1 g4_1; have Bw1 := Bx1.trans g3_1; have Cw1 := bt C14 Bw1; have cu1 := (Cw1.cell (p := ⟨b1, o1 + k, none⟩) hlt1).trans hx0; have ci1 := (Cw1.cell (p := ⟨b2, o2 + k, none⟩) hlt2).trans hy0; have fo1 := os_form O1; have N2_1 := apt_keep (O2.alloc (.cells #[.string y] 9)) P12 g2_1 (fun _ => .inr (.inr trivial)) fo1; have Q2_1 := apt_new (O2.alloc (.cells #[.string y] 9)) P12 g4_1; have N3_1 := apt_keep (O3.alloc (.cells #[.string y] 9)) P13 g2_1 (fun _ => .inr (.inr trivial)) fo1; have Q3_1 := apt_new (O3.alloc (.cells #[.string y] 9)) P13 g4_1; have N4_1 := apt_keep (O4.alloc (.cells #[.string y] 9)) P14 g2_1 (fun _ => .inr (.inr trivial)) fo1; have Q4_1 := apt_new (O4.alloc (.cells #[.string y] 9)) P14 g4_1; have Bx2 := Bw1.alloc Bw1.size (.cells #[.string y] 9); have hone2 := RS.one v1 9 y)
                  | (at_builtin; refine wp_appT _ rfl _ _ rfl w14.heap.size _ _ _ l3 rfl rfl (N3_1.alloc _) _ _ _ [y] rfl rfl _ hone2 (by simp; omega) Bx2.size ?_; intro X2 x2 v2 g1_2 g2_2 g3_2 g4_2; have Bw2 := Bx2.trans g3_2; have Cw2 := bt C14 Bw2; have cu2 := (Cw2.cell (p := ⟨b1, o1 + k, none⟩) hlt1).trans hx0; have ci2 := (Cw2.cell (p := ⟨b2, o2 + k, none⟩) hlt2).trans hy0; have fo2 := os_form N3_1; have N1_2 := apt_keep (g1_1.alloc (.cells #[.string y] 9)) Q3_1.symm g2_2 (fun _ => .inr (.inr trivial)) fo2; have Q1_2 := apt_new (g1_1.alloc (.cells #[.string y] 9)) Q3_1.symm g4_2; have N2_2 := apt_keep (N2_1.alloc (.cells #[.string y] 9)) P23.symm g2_2 (fun _ => .inr (.inr trivial)) fo2; have Q2_2 := apt_new (N2_1.alloc (.cells #[.string y] 9)) P23.symm g4_2; have N4_2 := apt_keep (N4_1.alloc (.cells #[.string y] 9)) P34 g2_2 (fun _ => .inr (.inr trivial)) fo2; have Q4_2 := apt_new (N4_1.alloc (.cells #[.string y] 9)) P34 g4_2))
                go_roundg (u.length - (k + 1))
                case measure => omega
                case rel => exact ⟨k + 1, X1, x1, (l1 ++ [y]), A2, c2, l2, X2, x2, (l3 ++ [y]), A4, c4, l4, by omega, rfl, by go_num, by simp, by simp, by simp, by simp, by rw [FS.out]; simp, N1_2, N2_2, g1_2, N4_2, by first | omega | (simp; omega), by first | omega | (simp; omega), by first | omega | (simp; omega), by first | omega | (simp; omega), by show _ = _; rw [F1.out]; simp, by show _ = _; rw [F2.out]; simp, by show _ = _; rw [F3.out]; simp, by show _ = _; rw [F4.out]; simp, Q2_1, Q1_2.symm, Q4_1, Q2_2.symm, P24, Q4_2, Bw2⟩
            | true =>
              rw [hbo2] at hg1
              have hbo := hg1
              rw [hbo2] at hh
              cases hbi : i.getD k false with
              | false =>
                rw [hbi] at hy0 ci
                have e1 := msel_step hy (bothI_get (g := (fun x y => x || y)) (n := u.length) (i := i) (j := O) h1)
                rw [hbi, hbo, ← E1.out] at e1
                have F1 := Lib.hid e1
                clear e1
                have e2 := msel_step hy (bothI_get (g := (fun x y => x && y)) (n := u.length) (i := i) (j := O) h1)
                rw [hbi, hbo, ← E2.out] at e2
                have F2 := Lib.hid e2
                clear e2
                have e3 := msel_step hy (bothI_get (g := (fun x y => x && !y)) (n := u.length) (i := i) (j := O) h1)
                rw [hbi, hbo, ← E3.out] at e3
                have F3 := Lib.hid e3
                clear e3
                have e4 := msel_step hy (bothI_get (g := (fun x _ => !x)) (n := u.length) (i := i) (j := O) h1)
                rw [hbi, ← E4.out] at e4
                have F4 := Lib.hid e4
                clear e4
                have es := sbP_succ (u := ks u) (v := ks v) (j := j) (b := true) hbi (by rw [hg2]; exact hbo2)
                have FS := Lib.hid es
                clear es hbi hbo hbo2 hg2 hg1 hy
                go_wp2_with fail
                refine hh.mono ?_; rintro e w' ⟨rfl, rfl⟩
                have Bx1 := Bw.alloc Bw.size (.cells #[.string y] 9)
                have hone1 := RS.one wr 9 y
                go_wp2_with (first
                  | (at_builtin; refine wp_appT _ rfl _ _ rfl w14.heap.size _ _ _ l1 rfl rfl (O1.alloc _) _ _ _ [y] rfl rfl _ hone1 (by simp; omega) Bx1.size ?_; intro X1 x1 v1 g1_1 g2_1 g3_1 g4_1; have Bw1 := Bx1.trans g3_1; have Cw1 := bt C14 Bw1; have cu1 := (Cw1.cell (p := ⟨b1, o1 + k, none⟩) hlt1).trans hx0; have ci1 := (Cw1.cell (p := ⟨b2, o2 + k, none⟩) hlt2).trans hy0; have fo1 := os_form O1; have N2_1 := apt_keep (O2.alloc (.cells #[.string y] 9)) P12 g2_1 (fun _ => .inr (.inr trivial)) fo1; have Q2_1 := apt_new (O2.alloc (.cells #[.string y] 9)) P12 g4_1; have N3_1 := apt_keep (O3.alloc (.cells #[.string y] 9)) P13 g2_1 (fun _ => .inr (.inr trivial)) fo1; have Q3_1 := apt_new (O3.alloc (.cells #[.string y] 9)) P13 g4_1; have N4_1 := apt_keep (O4.alloc (.cells #[.string y] 9)) P14 g2_1 (fun _ => .inr (.inr trivial)) fo1; have Q4_1 := apt_new (O4.alloc (.cells #[.string y] 9)) P14 g4_1; have Bx2 := Bw1.alloc Bw1.size (.cells #[.string y] 9); have hone2 := RS.one v1 9 y)
                  | (at_builtin; refine wp_appT _ rfl _ _ rfl w14.heap.size _ _ _ l4 rfl rfl (N4_1.alloc _) _ _ _ [y] rfl rfl _ hone2 (by simp; omega) Bx2.size ?_; intro X2 x2 v2 g1_2 g2_2 g3_2 g4_2; have Bw2 := Bx2.trans g3_2; have Cw2 := bt C14 Bw2; have cu2 := (Cw2.cell (p := ⟨b1, o1 + k, none⟩) hlt1).trans hx0; have ci2 := (Cw2.cell (p := ⟨b2, o2 + k, none⟩) hlt2).trans hy0; have fo2 := os_form N4_1; have N1_2 := apt_keep (g1_1.alloc (.cells #[.string y] 9)) Q4_1.symm g2_2 (fun _ => .inr (.inr trivial)) fo2; have Q1_2 := apt_new (g1_1.alloc (.cells #[.string y] 9)) Q4_1.symm g4_2; have N2_2 := apt_keep (N2_1.alloc (.cells #[.string y] 9)) P24.symm g2_2 (fun _ => .inr (.inr trivial)) fo2; have Q2_2 := apt_new (N2_1.alloc (.cells #[.string y] 9)) P24.symm g4_2; have N3_2 := apt_keep (N3_1.alloc (.cells #[.string y] 9)) P34.symm g2_2 (fun _ => .inr (.inr trivial)) fo2; have Q3_2 := apt_new (N3_1.alloc (.cells #[.string y] 9)) P34.symm g4_2))
                go_roundg (u.length - (k + 1))
                case measure => omega
                case rel => exact ⟨k + 1, X1, x1, (l1 ++ [y]), A2, c2, l2, A3, c3, l3, X2, x2, (l4 ++ [y]), by omega, rfl, by go_num, by simp, by simp, by simp, by simp, by rw [FS.out]; simp, N1_2, N2_2, N3_2, g1_2, by first | omega | (simp; omega), by first | omega | (simp; omega), by first | omega | (simp; omega), by first | omega | (simp; omega), by show _ = _; rw [F1.out]; simp, by show _ = _; rw [F2.out]; simp, by show _ = _; rw [F3.out]; simp, by show _ = _; rw [F4.out]; simp, Q2_1, Q3_1, Q1_2.symm, P23, Q2_2.symm, Q3_2.symm, Bw2⟩
              | true =>
                rw [hbi] at hy0 ci
                have e1 := msel_step hy (bothI_get (g := (fun x y => x || y)) (n := u.length) (i := i) (j := O) h1)
                rw [hbi, hbo, ← E1.out] at e1
                have F1 := Lib.hid e1
                clear e1
                have e2 := msel_step hy (bothI_get (g := (fun x y => x && y)) (n := u.length) (i := i) (j := O) h1)
                rw [hbi, hbo, ← E2.out] at e2
                have F2 := Lib.hid e2
                clear e2
                have e3 := msel_step hy (bothI_get (g := (fun x y => x && !y)) (n := u.length) (i := i) (j := O) h1)
                rw [hbi, hbo, ← E3.out] at e3
                have F3 := Lib.hid e3
                clear e3
                have e4 := msel_step hy (bothI_get (g := (fun x _ => !x)) (n := u.length) (i := i) (j := O) h1)
                rw [hbi, ← E4.out] at e4
                have F4 := Lib.hid e4
                clear e4
                have es := sbP_succ (u := ks u) (v := ks v) (j := j) (b := true) hbi (by rw [hg2]; exact hbo2)
                have FS := Lib.hid es
                clear es hbi hbo hbo2 hg2 hg1 hy
                go_wp2_with fail
                refine hh.mono ?_; rintro e w' ⟨rfl, rfl⟩
                have Bx1 := Bw.alloc Bw.size (.cells #[.string y] 9)
                have hone1 := RS.one wr 9 y
                go_wp2_with (first
                  | (at_builtin; refine wp_appT _ rfl _ _ rfl w14.heap.size _ _ _ l1 rfl rfl (O1.alloc _) _ _ _ [y] rfl rfl _ hone1 (by simp; omega) Bx1.size ?_; intro X1 x1 v1 g1_1 g2_1 g3_1 g4_1; have Bw1 := Bx1.trans g3_1; have Cw1 := bt C14 Bw1; have cu1 := (Cw1.cell (p := ⟨b1, o1 + k, none⟩) hlt1).trans hx0; have ci1 := (Cw1.cell (p := ⟨b2, o2 + k, none⟩) hlt2).trans hy0; have fo1 := os_form O1; have N2_1 := apt_keep (O2.alloc (.cells #[.string y] 9)) P12 g2_1 (fun _ => .inr (.inr trivial)) fo1; have Q2_1 := apt_new (O2.alloc (.cells #[.string y] 9)) P12 g4_1; have N3_1 := apt_keep (O3.alloc (.cells #[.string y] 9)) P13 g2_1 (fun _ => .inr (.inr trivial)) fo1; have Q3_1 := apt_new (O3.alloc (.cells #[.string y] 9)) P13 g4_1; have N4_1 := apt_keep (O4.alloc (.cells #[.string y] 9)) P14 g2_1 (fun _ => .inr (.inr trivial)) fo1; have Q4_1 := apt_new (O4.alloc (.cells #[.string y] 9)) P14 g4_1; have Bx2 := Bw1.alloc Bw1.size (.cells #[.string y] 9); have hone2 := RS.one v1 9 y)
                  | (at_builtin; refine wp_appT _ rfl _ _ rfl w14.heap.size _ _ _ l2 rfl rfl (N2_1.alloc _) _ _ _ [y] rfl rfl _ hone2 (by simp; omega) Bx2.size ?_; intro X2 x2 v2 g1_2 g2_2 g3_2 g4_2; have Bw2 := Bx2.trans g3_2; have Cw2 := bt C14 Bw2; have cu2 := (Cw2.cell (p := ⟨b1, o1 + k, none⟩) hlt1).trans hx0; have ci2 := (Cw2.cell (p := ⟨b2, o2 + k, none⟩) hlt2).trans hy0; have fo2 := os_form N2_1; have N1_2 := apt_keep (g1_1.alloc (.cells #[.string y] 9)) Q2_1.symm g2_2 (fun _ => .inr (.inr trivial)) fo2; have Q1_2 := apt_new (g1_1.alloc (.cells #[.string y] 9)) Q2_1.symm g4_2; have N3_2 := apt_keep (N3_1.alloc (.cells #[.string y] 9)) P23 g2_2 (fun _ => .inr (.inr trivial)) fo2; have Q3_2 := apt_new (N3_1.alloc (.cells #[.string y] 9)) P23 g4_2; have N4_2 := apt_keep (N4_1.alloc (.cells #[.string y] 9)) P24 g2_2 (fun _ => .inr (.inr trivial)) fo2; have Q4_2 := apt_new (N4_1.alloc (.cells #[.string y] 9)) P24 g4_2))
                go_roundg (u.length - (k + 1))
                case measure => omega
                case rel => exact ⟨k + 1, X1, x1, (l1 ++ [y]), X2, x2, (l2 ++ [y]), A3, c3, l3, A4, c4, l4, by omega, rfl, by go_num, by simp, by simp, by simp, by simp, by rw [FS.out]; simp, N1_2, g1_2, N3_2, N4_2, by first | omega | (simp; omega), by first | omega | (simp; omega), by first | omega | (simp; omega), by first | omega | (simp; omega), by show _ = _; rw [F1.out]; simp, by show _ = _; rw [F2.out]; simp, by show _ = _; rw [F3.out]; simp, by show _ = _; rw [F4.out]; simp, Q1_2.symm, Q3_1, Q4_1, Q3_2, Q4_2, P34, Bw2⟩
          · obtain rfl : k = u.length := by omega
            have hsub : sbP (ks u) i (ks v) j u.length = subB (ks u) i (ks v) j := by rw [← ks_length u]; rfl
            rw [hsub]
            clear hsub
            obtain ⟨wq, hwq⟩ : ∃ wq, wq = wr := ⟨_, rfl⟩
            subst hwq
            have HL1 : Hid (l1 = msel u (bothI (fun x y => x || y) u.length i O)) := by show _ = _; rw [E1.out, msel_end (Nat.le_refl _) (by rw [bothI_len]; exact Nat.le_refl _)]
            have HL2 : Hid (l2 = msel u (bothI (fun x y => x && y) u.length i O)) := by show _ = _; rw [E2.out, msel_end (Nat.le_refl _) (by rw [bothI_len]; exact Nat.le_refl _)]
            have HL3 : Hid (l3 = msel u (bothI (fun x y => x && !y) u.length i O)) := by show _ = _; rw [E3.out, msel_end (Nat.le_refl _) (by rw [bothI_len]; exact Nat.le_refl _)]
            have HL4 : Hid (l4 = msel u (bothI (fun x _ => !x) u.length i O)) := by show _ = _; rw [E4.out, msel_end (Nat.le_refl _) (by rw [bothI_len]; exact Nat.le_refl _)]
            go_wp2_with fail
            go_loopg [30, 31] v.length (fun gg x5 n wr => ∃ (k : Nat) (A5 : Option Addr) (c5 : Nat) (l5 : List Str), k ≤ v.length ∧ v.length - k = gg ∧ n = .int .i64 (k : Int) ∧ x5 = .slice A5 l5.length c5 ∧ OS wr wq.heap.size A5 c5 l5 ∧ l5.length ≤ k ∧ Hid (l5 = msel (v.take k) ((projI (ks u) i (ks v)).take k)) ∧ Below wq.heap.size wq wr)
            case atStart => exact ⟨0, _, 0, [], Nat.zero_le _, rfl, rfl, rfl, OS.empty wq, Nat.le_refl _, (by show _ = _; simp [msel]), bal _ _⟩
            case round =>
              obtain ⟨k2, A5, c5, l5, hk2, rfl, rfl, rfl, O5, L5, E5, B16⟩ := hrel
              have Bz := bt Bw B16
              have C16 := bt C14 Bz
              by_cases h2 : k2 < v.length
              · obtain ⟨b1, o1, rfl, hlt1, hx⟩ := hv.at_ (by omega)
                obtain ⟨y, hy⟩ : ∃ y, v[k2]? = some y := ⟨_, List.getElem?_eq_getElem h2⟩
                have hx0 := hx k2 y hy
                change _ = some (Value.string y) at hx0
                have cv := (C16.cell (p := ⟨b1, o1 + k2, none⟩) hlt1).trans hx0
                have hh := fh2 y wr (st hu C16) (st hi C16)
                have e5 := msel_step hy (hpg.out k2 y hy)
                rw [← E5.out] at e5
                clear hx hy
                cases hb2 : hasB (ks u) i y.toList with
                | true =>
                  rw [hb2, if_pos rfl] at e5
                  rw [hb2] at hh
                  have F5 := Lib.hid e5
                  clear e5 hb2
                  have hone := RS.one wr 9 y
                  have Bx := B16.alloc B16.size (.cells #[.string y] 9)
                  go_wp2_with (first
                    | (at_builtin; refine wp_appS _ rfl _ _ rfl wq.heap.size _ _ _ l5 rfl rfl (O5.alloc _) _ _ _ [y] rfl rfl _ hone (by simp; omega) Bx.size ?_; intro X1 x1 v1 g1 g2 g3)
                    | (go_at_call 26; refine hh.mono ?_; rintro e w' ⟨rfl, rfl⟩))
                  go_roundg (v.length - (k2 + 1))
                  case measure => omega
                  case rel => exact ⟨k2 + 1, X1, x1, _, by omega, rfl, by go_num, by rw [List.length_append]; rfl, g1, by simp; omega, by show _ = _; rw [F5.out], Bx.trans g3⟩
                | false =>
                  rw [hb2, if_neg (by simp)] at e5
                  rw [hb2] at hh
                  have F5 := Lib.hid e5
                  clear e5 hb2
                  go_wp2_with fail
                  refine hh.mono ?_; rintro e w' ⟨rfl, rfl⟩
                  go_wp2_with fail
                  go_roundg (v.length - (k2 + 1))
                  case measure => omega
                  case rel => exact ⟨k2 + 1, A5, c5, l5, by omega, rfl, by go_num, rfl, O5, by omega, by show _ = _; rw [F5.out]; simp, B16⟩
              · obtain rfl : k2 = v.length := by omega
                have HL5 : Hid (l5 = msel v (projI (ks u) i (ks v))) := by show _ = _; rw [E5.out, msel_end (Nat.le_refl _) (by rw [lP]; exact Nat.le_refl _)]
                have qC1 := (sC.nx (bt (bt (bt (bt B11 B12) B13) B14) Bz)).1
                have qC2 := (sC.nx (bt (bt (bt (bt B11 B12) B13) B14) Bz)).2.1
                have isC := is_yes AC DC A A4 cC dC c c4 u.length u.length _ _ u (bothI (fun x _ => !x) u.length i i) u l4 wr rfl lC.symm rfl rfl (sdB_of HTW.out (by omega) lC) rfl (by rw [HL4.out, ks_msel]; rfl) (st OC.rl (bt (bt (bt (bt (bt B10 B11) B12) B13) B14) Bz)) (st PC.rl (bt (bt (bt (bt (bt B10 B11) B12) B13) B14) Bz)) (st hu C16) (O4.below B16 (Nat.le_refl _)).rl
                skip
                go_wp2_with fail
                refine isC.mono ?_; rintro e w17 ⟨rfl, B17⟩
                have qP1 := (sP.nx (bt (bt B14 Bz) B17)).1
                have qP2 := (sP.nx (bt (bt B14 Bz) B17)).2.1
                have isP := is_yes AP DP E A5 cP dP e0 c5 v.length v.length _ _ v (projI (ks u) i (ks v)) v l5 w17 rfl lP.symm rfl rfl (sdB_of HTV.out (by omega) lP) rfl (by rw [HL5.out, ks_msel]) (st OP.rl (bt (bt (bt B13 B14) Bz) B17)) (st PP.rl (bt (bt (bt B13 B14) Bz) B17)) (st hv (bt C16 B17)) (st O5.rl B17)
                go_wp2_with fail
                refine isP.mono ?_; rintro e w18 ⟨rfl, B18⟩
                have B178 := bt B17 B18
                go_wp2_with fail
                refine (ne_b A E c e0 _ _ u v w18 rfl rfl HEQ.out (st hu (bt C16 B178)) (st hv (bt C16 B178))).mono ?_; rintro e w19 ⟨rfl, B19⟩
                go_wp2_with fail
                go_ret
                exact ⟨rfl, bt (bt C16 B178) B19⟩
end Go.Proofs.Ytmgblmdilepkpaa
