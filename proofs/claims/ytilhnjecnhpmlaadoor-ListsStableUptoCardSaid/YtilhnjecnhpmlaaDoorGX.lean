/- Merged texts: SrtK, SrtL, SrtM. -/
import Derived.Test.YtilhnjecnhpmlaaDoorGW
import Derived.Test.YtilhnjecnhpmlaaDoorGR
namespace Go.Proofs.YtilhnjecnhpmlaaDoor

section
variable {cmp : Dat → Dat → Int} {l a b o : List Dat} {i k : Nat}
def gl (l : List Dat) (s : Nat) : Dat := l.getD s nilD
theorem sorted_of_tags {L : List Nat} (hp : L.Perm (List.range l.length)) (hs : L.Pairwise (tlt (qOf cmp l))) : IsSorted cmp l (L.map (gl l)) := by
  have hl : L.length = l.length := by have := hp.length_eq; simpa using this
  refine ⟨fun i => L.getD i 0, perms_of hp, fun i j _ hij hj => ?_, ?_⟩
  · have hi2 : i < L.length := by omega
    have hj2 : j < L.length := by omega
    have h1 := List.pairwise_iff_getElem.1 hs i j hi2 hj2 hij
    show tlt _ (L.getD i 0) (L.getD j 0)
    rw [List.getD_eq_getElem?_getD, List.getD_eq_getElem?_getD, List.getElem?_eq_getElem hi2, List.getElem?_eq_getElem hj2]
    exact h1
  · refine List.ext_getElem (by rw [perml_len, List.length_map, hl]) fun i h1 h2 => ?_
    have hi : i < L.length := by simpa using h1
    rw [perml_get, List.getElem_map, List.getD_eq_getElem?_getD (l := L), List.getElem?_eq_getElem hi]
    rfl
theorem tags_of_sorted {m : List Dat} (h : IsSorted cmp l m) : ∃ L : List Nat, L.Perm (List.range l.length) ∧ L.Pairwise (tlt (qOf cmp l)) ∧ m = L.map (gl l) := by
  obtain ⟨τ, h1, h2, rfl⟩ := h
  exact ⟨(List.range l.length).map τ, h1, srt_pairwise h2, perml_map l τ⟩
theorem sortL_small (hq : TOrd (qOf cmp l)) (h : l.length < 2) : sortL cmp l = l :=
  sortL_eq hq ⟨id, PermS.id _, fun i j _ h1 h2 => by omega, (perml_id l).symm⟩
/-- merging: o is there, of the one half the items from i on are left, of the other one those from k on -/
def MG (cmp : Dat → Dat → Int) (l a b : List Dat) (i k : Nat) (o : List Dat) : Prop :=
  ∃ T A B : List Nat, o = T.map (gl l) ∧ a.drop i = A.map (gl l) ∧ b.drop k = B.map (gl l) ∧ (T ++ A).Pairwise (tlt (qOf cmp l)) ∧ (T ++ B).Pairwise (tlt (qOf cmp l)) ∧ ((T ++ A) ++ B).Perm (List.range l.length) ∧ ∀ s ∈ A, ∀ t ∈ B, s < t
theorem gl_take {h s : Nat} (hs : s < h) : gl (l.take h) s = gl l s := by
  unfold gl
  rw [List.getD_eq_getElem?_getD, List.getD_eq_getElem?_getD, List.getElem?_take_of_lt hs]
theorem gl_drop (h s : Nat) : gl (l.drop h) s = gl l (h + s) := by
  unfold gl
  rw [List.getD_eq_getElem?_getD, List.getD_eq_getElem?_getD, List.getElem?_drop]
theorem qOf_gl (s t : Nat) : qOf cmp l s t = cmp (gl l s) (gl l t) := rfl
theorem MG.start {h : Nat} (hl : h ≤ l.length) (ha : IsSorted cmp (l.take h) a) (hb : IsSorted cmp (l.drop h) b) : MG cmp l a b 0 0 [] := by
  obtain ⟨A, pA, sA, rfl⟩ := tags_of_sorted ha
  obtain ⟨B, pB, sB, rfl⟩ := tags_of_sorted hb
  have hlt : (l.take h).length = h := by rw [List.length_take]; omega
  rw [hlt] at pA
  rw [List.length_drop] at pB
  have mA : ∀ s ∈ A, s < h := fun s hs => List.mem_range.1 (pA.mem_iff.1 hs)
  refine ⟨[], A, B.map (h + ·), rfl, ?_, ?_, ?_, ?_, ?_, ?_⟩
  · rw [List.drop_zero]
    exact List.map_congr_left fun s hs => gl_take (mA s hs)
  · rw [List.drop_zero, List.map_map]
    exact List.map_congr_left fun s hs => gl_drop h s
  · rw [List.nil_append]
    refine sA.imp_of_mem fun {s t} hs ht hst => ?_
    unfold tlt at *
    rw [qOf_gl, gl_take (mA s hs), gl_take (mA t ht)] at hst
    exact hst
  · rw [List.nil_append, List.pairwise_map]
    refine sB.imp fun {s t} hst => ?_
    unfold tlt at *
    rw [qOf_gl, gl_drop, gl_drop] at hst
    rw [qOf_gl]
    omega
  · rw [List.nil_append]
    have h1 : List.range l.length = List.range h ++ (List.range (l.length - h)).map (h + ·) := by
      rw [← List.range_add]; congr 1; omega
    rw [h1]
    exact pA.append (pB.map _)
  · intro s hs t ht
    obtain ⟨u, _, rfl⟩ := List.mem_map.1 ht
    have := mA s hs
    omega
theorem drop_step {a : List Dat} {i : Nat} {A : List Nat} (hi : i < a.length) (ha : a.drop i = A.map (gl l)) : ∃ s A', A = s :: A' ∧ gl l s = a[i] ∧ a.drop (i + 1) = A'.map (gl l) := by
  rw [List.drop_eq_getElem_cons hi] at ha
  cases A with
  | nil => cases ha
  | cons s A' =>
    rw [List.map_cons] at ha
    injection ha with h1 h2
    exact ⟨s, A', rfl, h1.symm, h2⟩
theorem MG.stepA (hq : TOrd (qOf cmp l)) (h : MG cmp l a b i k o) (hi : i < a.length) (hk : k < b.length) (hc : ¬ cmp b[k] a[i] < 0) : MG cmp l a b (i + 1) k (o ++ [a[i]]) := by
  obtain ⟨T, A, B, rfl, ha, hb, sA, sB, hp, hlt⟩ := h
  obtain ⟨s, A', rfl, hs, ha'⟩ := drop_step hi ha
  obtain ⟨t, B', rfl, ht, -⟩ := drop_step hk hb
  have hst : tlt (qOf cmp l) s t := tlt_keep hq (by rw [qOf_gl, hs, ht]; exact hc) (hlt s (by simp) t (by simp))
  have hA := List.pairwise_append.1 sA
  have hB := List.pairwise_append.1 sB
  have hB2 := List.pairwise_cons.1 hB.2.1
  refine ⟨T ++ [s], A', t :: B', by rw [List.map_append, List.map_singleton, hs], ha', hb, by simpa using sA, ?_, by simpa using hp, fun s' hs' t' ht' => hlt s' (by simp [hs']) t' ht'⟩
  rw [List.append_assoc]
  refine List.pairwise_append.2 ⟨hA.1, ?_, ?_⟩
  · rw [List.singleton_append, List.pairwise_cons]
    refine ⟨fun u hu => ?_, hB.2.1⟩
    rcases List.mem_cons.1 hu with rfl | hu
    · exact hst
    · exact hst.trans hq (hB2.1 u hu)
  · intro x hx y hy
    rw [List.singleton_append] at hy
    rcases List.mem_cons.1 hy with rfl | hy
    · exact hA.2.2 x hx _ (by simp)
    · exact hB.2.2 x hx y hy
theorem MG.stepB (hq : TOrd (qOf cmp l)) (h : MG cmp l a b i k o) (hk : k < b.length) (hc : a.length ≤ i ∨ ∃ hi : i < a.length, cmp b[k] a[i] < 0) : MG cmp l a b i (k + 1) (o ++ [b[k]]) := by
  obtain ⟨T, A, B, rfl, ha, hb, sA, sB, hp, hlt⟩ := h
  obtain ⟨t, B', rfl, ht, hb'⟩ := drop_step hk hb
  have hA := List.pairwise_append.1 sA
  have hB := List.pairwise_append.1 sB
  have hall : ∀ u ∈ A, tlt (qOf cmp l) t u := by
    rcases hc with hc | ⟨hi, hc⟩
    · rw [List.drop_eq_nil_of_le hc] at ha
      have : A = [] := List.map_eq_nil_iff.1 ha.symm
      subst this
      intro u hu; cases hu
    · obtain ⟨s, A', rfl, hs, -⟩ := drop_step hi ha
      have h1 : tlt (qOf cmp l) t s := tlt_less (by rw [qOf_gl, hs, ht]; exact hc)
      have hA2 := List.pairwise_cons.1 hA.2.1
      intro u hu
      rcases List.mem_cons.1 hu with rfl | hu
      · exact h1
      · exact h1.trans hq (hA2.1 u hu)
  refine ⟨T ++ [t], A, B', by rw [List.map_append, List.map_singleton, ht], ha, hb', ?_, by simpa using sB, ?_, fun s' hs' t' ht' => hlt s' hs' t' (by simp [ht'])⟩
  · rw [List.append_assoc]
    refine List.pairwise_append.2 ⟨hA.1, ?_, ?_⟩
    · rw [List.singleton_append, List.pairwise_cons]
      exact ⟨hall, hA.2.1⟩
    · intro x hx y hy
      rw [List.singleton_append] at hy
      rcases List.mem_cons.1 hy with rfl | hy
      · exact hB.2.2 x hx _ (by simp)
      · exact hA.2.2 x hx y hy
  · refine List.Perm.trans ?_ hp
    simp only [List.append_assoc]
    refine List.Perm.append_left T ?_
    rw [List.singleton_append]
    exact (List.perm_middle (a := t) (l₁ := A) (l₂ := B')).symm
theorem MG.end_ (hq : TOrd (qOf cmp l)) (h : MG cmp l a b i k o) (hk : b.length ≤ k) : sortL cmp l = o ++ a.drop i := by
  obtain ⟨T, A, B, rfl, ha, hb, sA, sB, hp, hlt⟩ := h
  rw [List.drop_eq_nil_of_le hk] at hb
  have : B = [] := List.map_eq_nil_iff.1 hb.symm
  subst this
  rw [List.append_nil] at hp
  rw [sortL_eq hq (sorted_of_tags hp sA), List.map_append, ha]
theorem MG.len (h : MG cmp l a b i k o) : o.length + (a.length - i) + (b.length - k) = l.length := by
  obtain ⟨T, A, B, rfl, ha, hb, sA, sB, hp, hlt⟩ := h
  have h1 := congrArg List.length ha
  have h2 := congrArg List.length hb
  have h3 := hp.length_eq
  simp only [List.length_append, List.length_map, List.length_drop, List.length_range] at h1 h2 h3 ⊢
  omega
end
end Go.Proofs.YtilhnjecnhpmlaaDoor
namespace Go.Proofs.YtilhnjecnhpmlaaDoor

/-- a pair's first -/
def carK (y : Dat) : Dat := y.l.headD nilD
def ordC (x y : Dat) : Int := ordQ (carK x) (carK y)
theorem carK_good {y : Dat} (h : y.Good vU) : (carK y).Good vU := by
  unfold carK
  cases hl : y.l with
  | nil => exact nil_good
  | cons x xs => exact h.kids x (by rw [hl]; simp)
theorem carK_pair (x y : Dat) : carK (pairD x y) = x := rfl
theorem tord_car {l : List Dat} (h : ∀ x ∈ l, x.Good vU) : TOrd (qOf ordC l) :=
  ⟨fun s t => ord_turn numOrd _ _ (carK_good (getD_good h s)) (carK_good (getD_good h t)), fun s t u => ord_tr numOrd _ _ _ (carK_good (getD_good h s)) (carK_good (getD_good h t)) (carK_good (getD_good h u))⟩
/-- the order that the reference asks for -/
def cmpR (c : Bool) : Dat → Dat → Int := if c then ordC else ordQ
def GR (c : Bool) (d : Dat) : Prop := d.Good vU ∧ (c = true → d.k = 8)
theorem tord_R (c : Bool) {l : List Dat} (h : ∀ x ∈ l, GR c x) : TOrd (qOf (cmpR c) l) := by
  cases c
  · exact tord_ord (getD_good fun x hx => (h x hx).1)
  · exact tord_car fun x hx => (h x hx).1
theorem sort_sound {cmp : Dat → Dat → Int} {d : Dat} (he : listE d = 0) (hq : TOrd (qOf cmp (listL d))) : (joinD (sortL cmp (listL d)) nilD).sound vU = true := perm_sound vU_nil (listL_back he) (sortL_perm hq)
theorem sort_ans (d : Dat) : ansD d (sortD d) = ransD d (sortD d) ∧ ansE d (sortD d) = listE d := by
  by_cases he : listE d = 0
  · have h := sort_sound he (tord_ord (getD_good (listL_good d)))
    rw [(ans_ok he).1, (ans_ok he).2, rans_ok he, he]
    exact fit_yes h
  · rw [(ans_err he).1, (ans_err he).2, rans_err he]
    exact ⟨rfl, rfl⟩
noncomputable def sortByD (d : Dat) : Dat := joinD (sortL ordC (listL d)) nilD
noncomputable def sbD (d : Dat) : Dat := if listE d = 0 then if pairsB (listL d) = true then sortByD d else zeroD else zeroD
def sbE (d : Dat) : Int := if listE d = 0 then if pairsB (listL d) = true then 0 else 10 else listE d
theorem sb_err {d : Dat} (h : listE d ≠ 0) : sbD d = zeroD ∧ sbE d = listE d := by unfold sbD sbE; rw [if_neg h, if_neg h]; exact ⟨rfl, rfl⟩
theorem sb_type {d : Dat} (h : listE d = 0) (hp : pairsB (listL d) = false) : sbD d = zeroD ∧ sbE d = 10 := by
  unfold sbD sbE; rw [if_pos h, if_pos h, if_neg (by rw [hp]; decide), if_neg (by rw [hp]; decide)]; exact ⟨rfl, rfl⟩
theorem sb_ok {d : Dat} (h : listE d = 0) (hp : pairsB (listL d) = true) : sbD d = sortByD d ∧ sbE d = 0 ∧ fitD (sortByD d) = sortByD d ∧ fitE (sortByD d) = 0 := by
  have h1 := fit_yes (sort_sound h (tord_car (listL_good d)))
  unfold sbD sbE; rw [if_pos h, if_pos h, if_pos hp, if_pos hp]; exact ⟨rfl, rfl, h1.1, h1.2⟩
theorem pairs_GR {d : Dat} (hp : pairsB (listL d) = true) : ∀ x ∈ listL d, GR true x := fun x hx => ⟨listL_good d x hx, fun _ => by have := List.all_eq_true.1 hp x hx; simpa using this⟩
theorem GR_off (d : Dat) : ∀ x ∈ listL d, GR false x := fun x hx => ⟨listL_good d x hx, fun h => by cases h⟩
theorem getD_GR {c : Bool} {l : List Dat} (h : ∀ x ∈ l, GR c x) (s : Nat) (hs : s < l.length) : GR c (l.getD s nilD) := by
  rw [List.getD_eq_getElem?_getD, List.getElem?_eq_getElem hs]; exact h _ (List.getElem_mem hs)
end Go.Proofs.YtilhnjecnhpmlaaDoor
namespace Go.Proofs.YtilhnjecnhpmlaaDoor
open Go.RowKit

set_option maxRecDepth 100000 in
set_option maxHeartbeats 8000000 in
theorem cmp_car : CmpAt 42 ordC (GR true) := by
  intro x y vx vy w P hP gx gy hX hY
  obtain ⟨xa, xb, rfl⟩ := good_pair gx.1 (gx.2 rfl)
  obtain ⟨ya, yb, rfl⟩ := good_pair gy.1 (gy.2 rfl)
  have gxa := ((pair_good vU_nil).1 gx.1).1
  have gya := ((pair_good vU_nil).1 gy.1).1
  rw [show ordC (pairD xa xb) (pairD ya yb) = xa.ord numQ ya from rfl]
  clear gx gy
  obtain ⟨A1, c1, D1, d1, A2, c2, D2, d2, R, rc, b, off, lc, rfl, hPb, -, cx, cy, lx, ly, ox, RhX, -, khX, -⟩ := pairD_view hX
  obtain ⟨A1', c1', D1', d1', A2', c2', D2', d2', R', rc', b', off', lc', rfl, hPb', -, cx', cy', lx', ly', ox', RhY, -, khY, -⟩ := pairD_view hY
  match cx, lx, ox, cx', lx', ox' with
  | [x0, x1, x2, x3, x4, x5, x6, x7, x8, x9, x10], _, ox, [z0, z1, z2, z3, z4, z5, z6, z7, z8, z9, z10], _, ox' =>
  clear hX hY
  have hbn := hP b hPb
  have hbn' := hP b' hPb'
  have S0 := SB.new w [.int .i64 8, .int .i64 0, .bool false, .slice A1 0 c1, .slice D1 0 d1, .bool false, .slice A2 0 c2, .slice D2 0 d2, .string ByteArray.empty, .slice R 0 rc, .slice (some ⟨b, off, none⟩) 2 lc] 31
  have BB := bal w (.cells #[.int .i64 8, .int .i64 0, .bool false, .slice A1 0 c1, .slice D1 0 d1, .bool false, .slice A2 0 c2, .slice D2 0 d2, .string ByteArray.empty, .slice R 0 rc, .slice (some ⟨b, off, none⟩) 2 lc] 31)
  have S1 := SB.new (w.alloc (.cells #[.int .i64 8, .int .i64 0, .bool false, .slice A1 0 c1, .slice D1 0 d1, .bool false, .slice A2 0 c2, .slice D2 0 d2, .string ByteArray.empty, .slice R 0 rc, .slice (some ⟨b, off, none⟩) 2 lc] 31)) [.int .i64 8, .int .i64 0, .bool false, .slice A1' 0 c1', .slice D1' 0 d1', .bool false, .slice A2' 0 c2', .slice D2' 0 d2', .string ByteArray.empty, .slice R' 0 rc', .slice (some ⟨b', off', none⟩) 2 lc'] 31
  have z1 : (w.alloc (.cells #[.int .i64 8, .int .i64 0, .bool false, .slice A1 0 c1, .slice D1 0 d1, .bool false, .slice A2 0 c2, .slice D2 0 d2, .string ByteArray.empty, .slice R 0 rc, .slice (some ⟨b, off, none⟩) 2 lc] 31)).heap.size = w.heap.size + 1 := by simp
  have B1 := bal (w.alloc (.cells #[.int .i64 8, .int .i64 0, .bool false, .slice A1 0 c1, .slice D1 0 d1, .bool false, .slice A2 0 c2, .slice D2 0 d2, .string ByteArray.empty, .slice R 0 rc, .slice (some ⟨b, off, none⟩) 2 lc] 31)) (.cells #[.int .i64 8, .int .i64 0, .bool false, .slice A1' 0 c1', .slice D1' 0 d1', .bool false, .slice A2' 0 c2', .slice D2' 0 d2', .string ByteArray.empty, .slice R' 0 rc', .slice (some ⟨b', off', none⟩) 2 lc'] 31)
  have S0 := S0.nx B1
  have BB := bt BB B1
  rw [z1] at S1
  clear B1 z1
  have Rx : RDP _ P xa _ := RhX.step (fun z hz => BB.block z (hP z hz)) (fun z hz => hz)
  have Ry : RDP _ P ya _ := RhY.step (fun z hz => BB.block z (hP z hz)) (fun z hz => hz)
  have rx := range_nx khX BB hbn
  have ry := range_nx khY BB hbn'
  have hbx := Nat.lt_of_lt_of_le hbn BB.size
  have hby := Nat.lt_of_lt_of_le hbn' BB.size
  obtain ⟨W0, hW0⟩ : ∃ W0, W0 = (w.alloc (.cells #[.int .i64 8, .int .i64 0, .bool false, .slice A1 0 c1, .slice D1 0 d1, .bool false, .slice A2 0 c2, .slice D2 0 d2, .string ByteArray.empty, .slice R 0 rc, .slice (some ⟨b, off, none⟩) 2 lc] 31)).alloc (.cells #[.int .i64 8, .int .i64 0, .bool false, .slice A1' 0 c1', .slice D1' 0 d1', .bool false, .slice A2' 0 c2', .slice D2' 0 d2', .string ByteArray.empty, .slice R' 0 rc', .slice (some ⟨b', off', none⟩) 2 lc'] 31) := ⟨_, rfl⟩
  have hN : w.heap.size + 2 ≤ W0.heap.size := by rw [hW0]; simp
  rw [← hW0] at S0 S1 BB Rx Ry rx ry hbx hby
  clear RhX RhY khX khY
  go_enter Tryd.func42, Tryd.ntmps42
  go_upto_region 1 with fail
  rw [← hW0]
  clear hW0
  generalize hn : w.heap.size = n at *
  have c10 : W0.cell? ⟨n, 10, none⟩ = some (.slice (some ⟨b, off, none⟩) 2 lc) := S0.cell 10
  have d10 : W0.cell? ⟨n + 1, 10, none⟩ = some (.slice (some ⟨b', off', none⟩) 2 lc') := S1.cell 10
  have Dw := (Below.refl W0.heap.size W0).drew
  have S0 := S0.nx Dw
  have S1 := S1.nx Dw
  have Rx := Rx.keeps hP (by omega) Dw
  have Ry := Ry.keeps hP (by omega) Dw
  have rx := range_nx rx Dw (by omega)
  have ry := range_nx ry Dw (by omega)
  have hbx := Nat.lt_of_lt_of_le hbx Dw.size
  have hby := Nat.lt_of_lt_of_le hby Dw.size
  have c10 := (Dw.cell (p := ⟨n, 10, none⟩) (show n < _ by omega)).trans c10
  have d10 := (Dw.cell (p := ⟨n + 1, 10, none⟩) (show n + 1 < _ by omega)).trans d10
  have BB := BB.trans (Dw.mono (by omega))
  have hN := Nat.le_trans hN Dw.size
  clear Dw
  refine AnyW.regionQ (fun _ => false) 10 (fun w' => w'.cell? ⟨n, 10, none⟩ = some (.slice (some ⟨b, off, none⟩) 2 lc) ∧ w'.cell? ⟨(n + 1), 10, none⟩ = some (.slice (some ⟨b', off', none⟩) 2 lc') ∧ w'.rangeAt b off [x0, x1, x2, x3, x4, x5, x6, x7, x8, x9, x10] ∧ w'.rangeAt b' off' [z0, z1, z2, z3, z4, z5, z6, z7, z8, z9, z10]) rfl (by kernel_rfl) (by kernel_rfl) (by repeat (first | refine quiet_then ?_ | refine quiet_block ?_ | exact quiet_body)) ⟨(c10), (d10), (rx), (ry)⟩ (fun Q' hQK hq hns hHeld => ?_)
  generalize W0.drew = w9 at *
  refine AnyW.nextT (i := 0) (v := ?_) hq hns (.inr hHeld) rfl rfl (by kernel_rfl) (Or.inl ⟨by rfl, ?_⟩) ?_
  rotate_left
  · intro w' _; go_simp <;> with_reducible rfl
  try simp only [List.setIfInBounds_toArray, List.set_cons_zero, List.set_cons_succ]
  refine AnyW.next (i := 1) (v := ?_) hq hns hHeld rfl rfl (by kernel_rfl) (Or.inl ⟨by rfl, ?_⟩) ?_
  rotate_left
  · intro w' hSw
    have hc1 := hSw.1
    clear hSw
    go_simp <;> with_reducible rfl
  try simp only [List.setIfInBounds_toArray, List.set_cons_zero, List.set_cons_succ]
  refine AnyW.nextT (i := 2) (v := ?_) hq hns (.inr hHeld) rfl rfl (by kernel_rfl) (Or.inl ⟨by rfl, ?_⟩) ?_
  rotate_left
  · intro w' _; go_simp <;> with_reducible rfl
  try simp only [List.setIfInBounds_toArray, List.set_cons_zero, List.set_cons_succ]
  refine AnyW.next (i := 3) (v := .agg [x0, x1, x2, x3, x4, x5, x6, x7, x8, x9, x10].toArray) hq hns hHeld rfl rfl (by kernel_rfl) (yieldsIf_load_mid (by rfl) 31 (.tmp 7) rfl b off rfl [x0, x1, x2, x3, x4, x5, x6, x7, x8, x9, x10] _ (fun w' h => h.2.2.1) Tryd.underlying31 rfl (infoD.trans (by rfl))) ?_
  try simp only [List.setIfInBounds_toArray, List.set_cons_zero, List.set_cons_succ]
  refine AnyW.nextT (i := 4) (v := ?_) hq hns (.inr hHeld) rfl rfl (by kernel_rfl) (Or.inl ⟨by rfl, ?_⟩) ?_
  rotate_left
  · intro w' _; go_simp <;> with_reducible rfl
  try simp only [List.setIfInBounds_toArray, List.set_cons_zero, List.set_cons_succ]
  refine AnyW.next (i := 5) (v := ?_) hq hns hHeld rfl rfl (by kernel_rfl) (Or.inl ⟨by rfl, ?_⟩) ?_
  rotate_left
  · intro w' hSw
    have hc1 := hSw.2.1
    clear hSw
    go_simp <;> with_reducible rfl
  try simp only [List.setIfInBounds_toArray, List.set_cons_zero, List.set_cons_succ]
  refine AnyW.nextT (i := 6) (v := ?_) hq hns (.inr hHeld) rfl rfl (by kernel_rfl) (Or.inl ⟨by rfl, ?_⟩) ?_
  rotate_left
  · intro w' _; go_simp <;> with_reducible rfl
  try simp only [List.setIfInBounds_toArray, List.set_cons_zero, List.set_cons_succ]
  refine AnyW.next (i := 7) (v := .agg [z0, z1, z2, z3, z4, z5, z6, z7, z8, z9, z10].toArray) hq hns hHeld rfl rfl (by kernel_rfl) (yieldsIf_load_mid (by rfl) 31 (.tmp 11) rfl b' off' rfl [z0, z1, z2, z3, z4, z5, z6, z7, z8, z9, z10] _ (fun w' h => h.2.2.2) Tryd.underlying31 rfl (infoD.trans (by rfl))) ?_
  try simp only [List.setIfInBounds_toArray, List.set_cons_zero, List.set_cons_succ]
  refine AnyW.one 8 (by kernel_rfl) rfl (fun K' hK => ?_)
  go_simp
  refine (eord_any vU (Rx.snd hP (by omega)) (Ry.snd hP (by omega)) gxa gya).mono ?_
  rintro e w5 ⟨rfl, B5⟩
  go_wp2_with fail
  have S0 := S0.nx B5
  have S1 := S1.nx B5
  have Rx := Rx.keeps hP (by omega) B5
  have Ry := Ry.keeps hP (by omega) B5
  have rx := range_nx rx B5 (by omega)
  have ry := range_nx ry B5 (by omega)
  have hbx := Nat.lt_of_lt_of_le hbx B5.size
  have hby := Nat.lt_of_lt_of_le hby B5.size
  have c10 := (B5.cell (p := ⟨n, 10, none⟩) (show n < _ by omega)).trans c10
  have d10 := (B5.cell (p := ⟨n + 1, 10, none⟩) (show n + 1 < _ by omega)).trans d10
  have BB := BB.trans (B5.mono (by omega))
  have hN := Nat.le_trans hN B5.size
  refine hK.out _ _ (.inr ⟨(c10), (d10), (rx), (ry)⟩) (fun hG => ?_)
  have hHeld := hG.resolve_left (notGone.spec (by rfl))
  clear hK K' hG
  try simp only [List.setIfInBounds_toArray, List.set_cons_zero, List.set_cons_succ]
  refine AnyW.nextT (i := 9) (v := ?_) hq hns (.inr hHeld) rfl rfl (by kernel_rfl) (Or.inl ⟨by rfl, ?_⟩) ?_
  rotate_left
  · intro w' _; go_simp <;> with_reducible rfl
  try simp only [List.setIfInBounds_toArray, List.set_cons_zero, List.set_cons_succ]
  refine AnyW.done (by kernel_rfl) (hQK.out _ _ ?_)
  clear hQK hq hns hHeld
  go_wp2_with fail
  go_ret
  try rw [hn]
  exact ⟨by first | rfl | simp, BB⟩

set_option maxRecDepth 100000 in
theorem enters_car : ∀ args w, (callFunc 42 args).run Tryd.prog w = .ok (.enter 42 args) w := fun args w => by
  have hf : Tryd.prog.funcs[42]? = some Tryd.f42 := by kernel_rfl
  have hn : (Tryd.f42.name == "runtime.NumGoroutine") = false := by kernel_rfl
  have hb : Tryd.f42.body.isNone = false := by kernel_rfl
  have hn2 : ¬ Tryd.f42.name = "runtime.NumGoroutine" := fun h => by rw [h] at hn; cases hn
  have hb2 : ¬ Tryd.f42.body = none := fun h => by rw [h] at hb; cases hb
  simp [callFunc, go_sem, hf, hn2, hb2]

set_option maxRecDepth 100000 in
set_option maxHeartbeats 8000000 in
theorem lsortby_any (d : Dat) (v : Value) (w : World) (P : Nat → Prop) (hP : ∀ b, P b → b < w.heap.size) (hR : RDP w P d v) (hT : Tabs w) :
    Calls Tryd.prog 24 #[v] w fun e w' => ∃ v', e = .returned (.tuple #[v', .int .i64 (sbE d)]) ∧ RDP w' (Out P w.heap.size w') (sbD d) v' ∧ Below w.heap.size w w' := by
  obtain ⟨ls, rfl, ll, lo⟩ := hR.agg
  match ls, ll, lo with
  | [y0, y1, y2, y3, y4, y5, y6, y7, y8, y9, y10], _, lo =>
  have S0 := SB.new w [y0, y1, y2, y3, y4, y5, y6, y7, y8, y9, y10] 31
  have BB := bal w (.cells #[y0, y1, y2, y3, y4, y5, y6, y7, y8, y9, y10] 31)
  have S1 := SB.new (w.alloc (.cells #[y0, y1, y2, y3, y4, y5, y6, y7, y8, y9, y10] 31)) [.int .i64 0, .int .i64 0, .bool false, .slice none 0 0, .slice none 0 0, .bool false, .slice none 0 0, .slice none 0 0, .string { data := #[] }, .slice none 0 0, .slice none 0 0] 31
  have z1 : (w.alloc (.cells #[y0, y1, y2, y3, y4, y5, y6, y7, y8, y9, y10] 31)).heap.size = w.heap.size + 1 := by simp
  have B1 := bal (w.alloc (.cells #[y0, y1, y2, y3, y4, y5, y6, y7, y8, y9, y10] 31)) (.cells #[.int .i64 0, .int .i64 0, .bool false, .slice none 0 0, .slice none 0 0, .bool false, .slice none 0 0, .slice none 0 0, .string { data := #[] }, .slice none 0 0, .slice none 0 0] 31)
  have S0 := S0.nx B1
  have BB := bt BB B1
  rw [z1] at S1
  clear B1 z1
  have R0 : RDP _ P d _ := hR.step (fun z hz => BB.block z (hP z hz)) (fun z hz => hz)
  obtain ⟨W0, hW0⟩ : ∃ W0, W0 = (w.alloc (.cells #[y0, y1, y2, y3, y4, y5, y6, y7, y8, y9, y10] 31)).alloc (.cells #[.int .i64 0, .int .i64 0, .bool false, .slice none 0 0, .slice none 0 0, .bool false, .slice none 0 0, .slice none 0 0, .string { data := #[] }, .slice none 0 0, .slice none 0 0] 31) := ⟨_, rfl⟩
  have hN : w.heap.size + 2 ≤ W0.heap.size := by rw [hW0]; simp
  rw [← hW0] at S0 S1 BB R0
  go_enter Tryd.func24, Tryd.ntmps24
  go_upto_region 1 with fail
  rw [← hW0]
  clear hW0 hR
  generalize hn : w.heap.size = n at *
  have k0 := S0.cell 0; have k1 := S0.cell 1; have k2 := S0.cell 2; have k3 := S0.cell 3; have k4 := S0.cell 4; have k5 := S0.cell 5; have k6 := S0.cell 6; have k7 := S0.cell 7; have k8 := S0.cell 8; have k9 := S0.cell 9; have k10 := S0.cell 10
  go_wp2_with fail
  refine (lread_any d _ W0 P (fun z hz => by have := hP z hz; omega) R0 (hT.go hn BB)).mono ?_
  rintro e w2 ⟨A, c, rfl, O2, B2⟩
  clear k0 k1 k2 k3 k4 k5 k6 k7 k8 k9 k10
  have S1 := S1.nx B2
  have BB := BB.trans (B2.mono (by omega))
  have hlc := O2.len
  have O2 := O2.base_le (B := n + 2) (by omega)
  have hN := Nat.le_trans hN B2.size
  have hlen := listL_len d
  clear S0 R0 B2
  rcases listE_cases d with he | he | he
  · rw [he]
    go_wp2_with (refine wp_stD rfl rfl (.tmp 2) (.tmp 14) rfl (n + 1) rfl [.int .i64 0, .int .i64 0, .bool false, .slice none 0 0, .slice none 0 0, .bool false, .slice none 0 0, .slice none 0 0, .string { data := #[] }, .slice none 0 0, .slice none 0 0] rfl rfl _ S1 rfl (by simp [Value.oneCell']) ?_)
    have S2 := S1.cells [.int .i64 0, .int .i64 0, .bool false, .slice none 0 0, .slice none 0 0, .bool false, .slice none 0 0, .slice none 0 0, .string { data := #[] }, .slice none 0 0, .slice none 0 0] rfl
    have r0 := S2.cell 0; have r1 := S2.cell 1; have r2 := S2.cell 2; have r3 := S2.cell 3; have r4 := S2.cell 4; have r5 := S2.cell 5; have r6 := S2.cell 6; have r7 := S2.cell 7; have r8 := S2.cell 8; have r9 := S2.cell 9; have r10 := S2.cell 10
    refine bodyPost_ret (v := .tuple #[.agg #[.int .i64 0, .int .i64 0, .bool false, .slice none 0 0, .slice none 0 0, .bool false, .slice none 0 0, .slice none 0 0, .string { data := #[] }, .slice none 0 0, .slice none 0 0], .int .i64 2]) (by simp [results, r0, r1, r2, r3, r4, r5, r6, r7, r8, r9, r10, go_sem]) rfl ?_
    try rw [hn]
    rw [(sb_err (by rw [he]; decide)).1, (sb_err (by rw [he]; decide)).2, he]
    exact ⟨_, rfl, rd_zeroD _ _, below_cso BB (by omega) 0 [.int .i64 0, .int .i64 0, .bool false, .slice none 0 0, .slice none 0 0, .bool false, .slice none 0 0, .slice none 0 0, .string { data := #[] }, .slice none 0 0, .slice none 0 0]⟩
  · rw [he]
    go_wp2_with (refine wp_stD rfl rfl (.tmp 2) (.tmp 14) rfl (n + 1) rfl [.int .i64 0, .int .i64 0, .bool false, .slice none 0 0, .slice none 0 0, .bool false, .slice none 0 0, .slice none 0 0, .string { data := #[] }, .slice none 0 0, .slice none 0 0] rfl rfl _ S1 rfl (by simp [Value.oneCell']) ?_)
    have S2 := S1.cells [.int .i64 0, .int .i64 0, .bool false, .slice none 0 0, .slice none 0 0, .bool false, .slice none 0 0, .slice none 0 0, .string { data := #[] }, .slice none 0 0, .slice none 0 0] rfl
    have r0 := S2.cell 0; have r1 := S2.cell 1; have r2 := S2.cell 2; have r3 := S2.cell 3; have r4 := S2.cell 4; have r5 := S2.cell 5; have r6 := S2.cell 6; have r7 := S2.cell 7; have r8 := S2.cell 8; have r9 := S2.cell 9; have r10 := S2.cell 10
    refine bodyPost_ret (v := .tuple #[.agg #[.int .i64 0, .int .i64 0, .bool false, .slice none 0 0, .slice none 0 0, .bool false, .slice none 0 0, .slice none 0 0, .string { data := #[] }, .slice none 0 0, .slice none 0 0], .int .i64 10]) (by simp [results, r0, r1, r2, r3, r4, r5, r6, r7, r8, r9, r10, go_sem]) rfl ?_
    try rw [hn]
    rw [(sb_err (by rw [he]; decide)).1, (sb_err (by rw [he]; decide)).2, he]
    exact ⟨_, rfl, rd_zeroD _ _, below_cso BB (by omega) 0 [.int .i64 0, .int .i64 0, .bool false, .slice none 0 0, .slice none 0 0, .bool false, .slice none 0 0, .slice none 0 0, .string { data := #[] }, .slice none 0 0, .slice none 0 0]⟩
  · rw [he]
    have htype := sb_type he
    have hok := sb_ok he
    have hsD : sortByD d = joinD (sortL ordC (listL d)) nilD := rfl
    have hgr := pairs_GR (d := d)
    have hgq := tord_car (listL_good d)
    have L2 := O2.rls (by omega)
    generalize listL d = l at *
    replace htype := Lib.hid htype
    replace hok := Lib.hid hok
    replace hsD := Lib.hid hsD
    replace hgr := Lib.hid hgr
    replace hgq := Lib.hid hgq
    clear he
    go_upto_region 4 with fail
    go_wp2_with fail
    refine (lpairs_any A c l w2 _ (Out.all hP (by omega)) L2).mono ?_
    rintro e w3 ⟨rfl, B3⟩
    clear L2
    have S1 := S1.nx B3
    have O2 := O2.below (fun b hb => Nat.lt_of_lt_of_le (hP b hb) (by omega)) B3
    have BB := BB.trans (B3.mono (by omega))
    have hN := Nat.le_trans hN B3.size
    obtain ⟨z, hz⟩ : ∃ z, Hid (pairsB l = z) := ⟨_, Lib.hid rfl⟩
    rw [hz.out]
    cases z with
    | false =>
      have hta := htype.out hz.out
      replace hta := Lib.hid hta
      clear htype hok hgr hgq
      go_wp2_with (refine wp_stD rfl rfl (.tmp 2) (.tmp 20) rfl (n + 1) rfl [.int .i64 0, .int .i64 0, .bool false, .slice none 0 0, .slice none 0 0, .bool false, .slice none 0 0, .slice none 0 0, .string { data := #[] }, .slice none 0 0, .slice none 0 0] rfl rfl _ S1 rfl (by simp [Value.oneCell']) ?_)
      have S2 := S1.cells [.int .i64 0, .int .i64 0, .bool false, .slice none 0 0, .slice none 0 0, .bool false, .slice none 0 0, .slice none 0 0, .string { data := #[] }, .slice none 0 0, .slice none 0 0] rfl
      have r0 := S2.cell 0; have r1 := S2.cell 1; have r2 := S2.cell 2; have r3 := S2.cell 3; have r4 := S2.cell 4; have r5 := S2.cell 5; have r6 := S2.cell 6; have r7 := S2.cell 7; have r8 := S2.cell 8; have r9 := S2.cell 9; have r10 := S2.cell 10
      refine bodyPost_ret (v := .tuple #[.agg #[.int .i64 0, .int .i64 0, .bool false, .slice none 0 0, .slice none 0 0, .bool false, .slice none 0 0, .slice none 0 0, .string { data := #[] }, .slice none 0 0, .slice none 0 0], .int .i64 10]) (by simp [results, r0, r1, r2, r3, r4, r5, r6, r7, r8, r9, r10, go_sem]) rfl ?_
      try rw [hn]
      rw [hta.out.1, hta.out.2]
      exact ⟨_, rfl, rd_zeroD _ _, below_cso BB (by omega) 0 [.int .i64 0, .int .i64 0, .bool false, .slice none 0 0, .slice none 0 0, .bool false, .slice none 0 0, .slice none 0 0, .string { data := #[] }, .slice none 0 0, .slice none 0 0]⟩
    | true =>
      have hta := hok.out hz.out
      replace hta := Lib.hid hta
      have hst := sorted_any 42 ordC _ enters_car cmp_car A c l (n + 2) w3 P hN (fun z hz => by have := hP z hz; omega) O2 hlen (getD_GR (hgr.out hz.out)) hgq.out (fun w' hb => hT.go hn (BB.trans (hb.mono (by omega))))
      clear htype hok hgr hgq O2 B3
      go_wp2_with fail
      refine hst.mono ?_
      clear hst
      rintro e w6 ⟨vf, rfl, Rf, B6⟩
      have S1 := S1.lo B6 (by omega)
      have BB := BB.trans (B6.mono (by omega))
      have hN := Nat.le_trans hN B6.size
      obtain ⟨cs, rfl, cl, co⟩ := Rf.agg
      match cs, cl, co with
      | [x0, x1, x2, x3, x4, x5, x6, x7, x8, x9, x10], _, co =>
      rw [← hsD.out] at Rf ⊢
      rw [hta.out.2.2.1] at Rf
      rw [hta.out.2.2.2]
      go_wp2_with (refine wp_stD rfl rfl (.tmp 2) (.tmp 23) rfl (n + 1) rfl [x0, x1, x2, x3, x4, x5, x6, x7, x8, x9, x10] rfl rfl _ S1 rfl co ?_)
      have S2 := S1.cells [x0, x1, x2, x3, x4, x5, x6, x7, x8, x9, x10] rfl
      have r0 := S2.cell 0; have r1 := S2.cell 1; have r2 := S2.cell 2; have r3 := S2.cell 3; have r4 := S2.cell 4; have r5 := S2.cell 5; have r6 := S2.cell 6; have r7 := S2.cell 7; have r8 := S2.cell 8; have r9 := S2.cell 9; have r10 := S2.cell 10
      refine bodyPost_ret (v := .tuple #[.agg #[x0, x1, x2, x3, x4, x5, x6, x7, x8, x9, x10], .int .i64 0]) (by simp [results, r0, r1, r2, r3, r4, r5, r6, r7, r8, r9, r10, go_sem]) rfl ?_
      try rw [hn]
      rw [hta.out.1, hta.out.2.1]
      exact ⟨_, rfl, (Rf.scO hP (by omega) (g := n + 1) (by omega) (by omega) 0 [x0, x1, x2, x3, x4, x5, x6, x7, x8, x9, x10]).from_ (by omega), below_cso BB (by omega) 0 [x0, x1, x2, x3, x4, x5, x6, x7, x8, x9, x10]⟩

end Go.Proofs.YtilhnjecnhpmlaaDoor
