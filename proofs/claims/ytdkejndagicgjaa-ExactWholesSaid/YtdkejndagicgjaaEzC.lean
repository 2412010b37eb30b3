/- Walks: the reference's DivMod, joined. -/
import Derived.Test.YtdkejndagicgjaaEzB
import Derived.Test.YtdkejndagicgjaaEyE
namespace Go.Proofs.Ytdkejndagicgjaa
open Go.RowKit

theorem rdm_any {V U : Value} {r i r' i' : Rw} {w : World} (hV : VN w w.heap.size V r i) (hU : VN w w.heap.size U r' i') :
    Calls Try.prog 21 #[V, U] w (RetNN w (qdmA r i r' i')) := by
  unfold qdmA
  by_cases h : chkN2 true r i r' i' = 0
  · rw [if_pos h]
    obtain ⟨n1, n2, h3, h4⟩ := chkN2_zero h
    obtain ⟨x, y, rfl, rfl, b1, b2⟩ := nB_rat n1
    obtain ⟨u, v, rfl, rfl, b3, b4⟩ := nB_rat n2
    rw [qv_rwq, qv_rwq]
    have hv := im_zero h4
    by_cases h0 : u = 0
    · rw [if_pos h0]
      exact rdm_zero V U x y u v w hV hU b1 b2 b3 b4 h3 h4 ⟨h0, hv⟩
    · rw [if_neg h0]
      exact rdm_ok V U x y u v w hV hU b1 b2 b3 b4 h3 h4 (fun hh => h0 hh.1) h0 (fun V w' h hb => refdown_any V _ w' h hb)
  · rw [if_neg h]
    exact rdm_bad V U r i r' i' w hV hU h
end Go.Proofs.Ytdkejndagicgjaa
