/-
  OpGets: every bytes are the document's request, and the document's answer, or have its errors.
-/
import Derived.Test.YtjicfkmpgogppaaPOx26
import Derived.Test.YtjicfkmpgogppaaOpGetR
import Derived.Test.YtjicfkmpgogppaaWk
namespace Go.Proofs.Ytjicfkmpgogppaa.Pure
set_option linter.unusedVariables false
set_option linter.unusedSimpArgs false
open Go Go.RowKit Go.Proofs.Ytjicfkmpgogppaa.Plain Go.Proofs.Ytjicfkmpgogppaa.Vs Go.Proofs.Ytjicfkmpgogppaa.Op Go.Proofs.Ytjicfkmpgogppaa.PO Go.Proofs.YtjicfkmpgogppaaW.PrintWords Go.Proofs.YtjicfkmpgogppaaW.PrintLast Go.Proofs.YtjicfkmpgogppaaW.PrintMore
theorem OpGets_pure (s : ByteArray) (hs : s.size ≤ 140737488351232 * 4) : ∃ k, precinctlaw18_OpGets.f k s = some true := by
  obtain ⟨k0, hk0⟩ := Wk.wakes
  obtain ⟨y, e, K, hg, hG, sm⟩ := both_get s hs
  have sq := small_req sm e
  have st := small_told sm e
  obtain ⟨K1, h1⟩ := sameList_toWs (reqR y e).2.2.1 sq.1 sq.2
  obtain ⟨K2, h2⟩ := same_toW (toldR y e).2.1 st
  obtain ⟨K3, h3⟩ := sameList_toWs [] (by simp) (by simp)
  refine ⟨max k0 (max K (max K1 (max K2 K3))) + 2, ?_⟩
  have f0 := Vs.up_le (fun k => precinctlaw18_wakes.mono k) (show k0 ≤ max k0 (max K (max K1 (max K2 K3))) + 2 by omega) hk0
  have f1 := h1 (max k0 (max K (max K1 (max K2 K3))) + 2) (by omega)
  have f2 := Vs.up_le (fun k => precinctlaw18_same.mono _ _ _ _ _ _ _ _ k) (show K2 ≤ max k0 (max K (max K1 (max K2 K3))) + 2 by omega) h2
  have f3 := h3 (max k0 (max K (max K1 (max K2 K3))) + 2) (by omega)
  have g := hG (max k0 (max K (max K1 (max K2 K3))) + 2) (by omega)
  generalize max k0 (max K (max K1 (max K2 K3))) = m at f0 f1 f2 f3 g ⊢
  have t1 := opTold_is s y e hg
  have t2 := refTold_is s y e (m + 1) g
  have hend : ∀ (t : ByteArray) (o : Int) (l : List Vs.V) (c : Int), op_Get.f (m + 2) s = some (t, o, l, c) → precinctref18_Get.f (m + 2) s = some (t, o, toWs l, c) → precinctlaw18_sameList.f (m + 2) l (toWs l) = some true → precinctlaw18_OpGets.f (m + 2) s = some true := by
    intro t o l c a1 a2 a3
    unfold precinctlaw18_OpGets.f
    rw [a1, Option.bind_some, a2, Option.bind_some, t1, Option.bind_some, t2, Option.bind_some, f0, Option.bind_some]
    dsimp only
    rw [if_pos rfl, if_pos rfl, if_pos rfl, if_pos rfl, a3, Option.bind_some, if_pos rfl, if_pos rfl, if_pos rfl, f2, Option.bind_some]
  by_cases hz : (s.size : Int) > 4096
  · refine hend ⟨#[]⟩ 0 [] 5 ?_ ?_ f3
    · unfold op_Get.f; rw [if_pos hz]
    · unfold precinctref18_Get.f; rw [if_pos hz]; simp [toWs]
  · exact hend _ _ _ _ (opGet_is s y e hg hz (m + 1)) (refGet18_is s y e m g hz) f1
theorem OpGets : precinctlaw18_OpGets.Pure := fun a0 h => OpGets_pure a0 (by omega)
end Go.Proofs.Ytjicfkmpgogppaa.Pure
