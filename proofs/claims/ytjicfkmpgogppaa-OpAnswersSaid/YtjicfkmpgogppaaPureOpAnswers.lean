/-
  OpAnswers: every answer has the document's bytes.
-/
import Derived.Test.YtjicfkmpgogppaaPOx17
import Derived.Test.YtjicfkmpgogppaaOpPut
import Derived.Test.YtjicfkmpgogppaaWk
namespace Go.Proofs.Ytjicfkmpgogppaa.Pure
set_option linter.unusedVariables false
set_option linter.unusedSimpArgs false
open Go Go.RowKit Go.Proofs.Ytjicfkmpgogppaa.Plain Go.Proofs.Ytjicfkmpgogppaa.Bu Go.Proofs.Ytjicfkmpgogppaa.Op Go.Proofs.Ytjicfkmpgogppaa.PO Go.Proofs.YtjicfkmpgogppaaW.PrintWords Go.Proofs.YtjicfkmpgogppaaW.PrintLast Go.Proofs.YtjicfkmpgogppaaW.PrintMore
theorem OpAnswers (a0 : Int) (l1 : List S147) (h1 : (Lit.int .i64 a0).wf = true) (h : ∀ x ∈ l1, (Lit.int .i64 x.f0).wf = true ∧ (Lit.int .i64 x.f1).wf = true ∧ x.f2.size ≤ maxLen ∧ (Lit.int .i64 x.f3).wf = true) (_hl : l1.length ≤ maxLen) : ∃ k, precinctlaw18_OpAnswers.f k a0 l1 = some true := by
  obtain ⟨k0, hk0⟩ := Wk.wakes
  have ho := wf_i64 h1
  have hw := built_wf l1 (fun x hx => wf_i64 (h x hx).2.1)
  have hs := ansV_size (c := a0) (built_nodes l1)
  obtain ⟨K1, e1⟩ := opBytes_some ho hw (by omega)
  obtain ⟨K2, e2⟩ := refBytes_some ho hw (by omega)
  refine ⟨max k0 (max K1 K2), ?_⟩
  have f1 := e1 (max k0 (max K1 K2)) (by omega)
  have f2 := e2 (max k0 (max K1 K2)) (by omega)
  have f0 := Vs.up_le (fun k => precinctlaw18_wakes.mono k) (show k0 ≤ max k0 (max K1 K2) by omega) hk0
  generalize max k0 (max K1 K2) = q at f0 f1 f2 ⊢
  unfold precinctlaw18_OpAnswers.f precinctlaw18_build.f
  simp only [Option.bind_some]
  rw [f0, Option.bind_some, if_pos rfl, f1, Option.bind_some, show Bu.toW = Vs.toW from rfl, f2, Option.bind_some]
  simp
end Go.Proofs.Ytjicfkmpgogppaa.Pure
