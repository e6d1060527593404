/-
  OpPuts: every request, with any args, has the document's bytes, or its error.
-/
import Derived.Test.YtjicfkmpgogppaaPOx15
import Derived.Test.YtjicfkmpgogppaaOpPut
import Derived.Test.YtjicfkmpgogppaaWk
namespace Go.Proofs.Ytjicfkmpgogppaa.Pure
set_option linter.unusedVariables false
set_option linter.unusedSimpArgs false
open Go Go.RowKit Go.Proofs.Ytjicfkmpgogppaa.Plain Go.Proofs.Ytjicfkmpgogppaa.Bu Go.Proofs.Ytjicfkmpgogppaa.Op Go.Proofs.Ytjicfkmpgogppaa.PO Go.Proofs.YtjicfkmpgogppaaW.PrintWords Go.Proofs.YtjicfkmpgogppaaW.PrintLast Go.Proofs.YtjicfkmpgogppaaW.PrintMore
theorem OpPuts (a0 : ByteArray) (a1 : Int) (l2 : List S147) (_h0 : a0.size ≤ 140737488351232) (h1 : (Lit.int .i64 a1).wf = true) (h : ∀ x ∈ l2, (Lit.int .i64 x.f0).wf = true ∧ (Lit.int .i64 x.f1).wf = true ∧ x.f2.size ≤ maxLen ∧ (Lit.int .i64 x.f3).wf = true) (_hl : l2.length ≤ maxLen) : ∃ k, precinctlaw18_OpPuts.f k a0 a1 l2 = some true := by
  obtain ⟨k0, hk0⟩ := Wk.wakes
  have ho := wf_i64 h1
  have hw := built_list_wf l2 (fun x hx => wf_i64 (h x hx).2.1)
  have hs := reqV_size (s := a0) (o := a1) (built_list_nodes l2)
  obtain ⟨K1, e1⟩ := opPut_some (s := a0) ho hw (by have := built_list_len l2; omega) (by omega)
  obtain ⟨K2, e2⟩ := refPut18_some (s := a0) ho hw (by omega)
  refine ⟨max k0 (max K1 K2), ?_⟩
  have f1 := e1 (max k0 (max K1 K2)) (by omega)
  have f2 := e2 (max k0 (max K1 K2)) (by omega)
  have f0 := Vs.up_le (fun k => precinctlaw18_wakes.mono k) (show k0 ≤ max k0 (max K1 K2) by omega) hk0
  generalize max k0 (max K1 K2) = q at f0 f1 f2 ⊢
  unfold precinctlaw18_OpPuts.f precinctlaw18_build.f
  simp only [Option.bind_some]
  rw [f1, Option.bind_some, show (Bu.toW (built l2)).f3 = Vs.toWs (built l2).f3 from toW_list _, f2, Option.bind_some, f0, Option.bind_some, if_pos rfl, if_pos rfl]
  simp
end Go.Proofs.Ytjicfkmpgogppaa.Pure
