/-
  PackPuts: every value, of any kinds, has the document's bytes, or its error.
-/
import Derived.Test.YtpbnfnaebdmagaaPXx5
import Derived.Test.YtpbnfnaebdmagaaPv
import Derived.Test.YtpbnfnaebdmagaaRf
namespace Go.Proofs.Ytpbnfnaebdmagaa.Pure
set_option linter.unusedVariables false
set_option linter.unusedSimpArgs false
open Go Go.RowKit Go.Proofs.Ytpbnfnaebdmagaa.Plain Go.Proofs.Ytpbnfnaebdmagaa.Pv Go.Proofs.Ytpbnfnaebdmagaa.Bu Go.Proofs.Ytpbnfnaebdmagaa.PX Go.Proofs.YtpbnfnaebdmagaaW.PrintWords Go.Proofs.YtpbnfnaebdmagaaW.PrintLast Go.Proofs.YtpbnfnaebdmagaaW.PrintMore
theorem PackPuts (l0 : List S56) (h : ∀ x ∈ l0, (Lit.int .i64 x.f0).wf = true ∧ (Lit.int .i64 x.f1).wf = true ∧ x.f2.size ≤ maxLen ∧ (Lit.int .i64 x.f3).wf = true) (hl : l0.length ≤ maxLen) : ∃ k, precinctlaw02_PackPuts.f k l0 = some true := by
  obtain ⟨k0, hk0⟩ := Wk.wakes
  have hw : Wf (built l0) := built_wf l0 (fun x hx => wf_i64 (h x hx).2.1)
  obtain ⟨K1, h1⟩ := packPut_some (built l0) hw (built_size l0 0)
  obtain ⟨K2, h2⟩ := refPut_some (built l0) hw (built_size l0 0)
  refine ⟨max k0 (max K1 K2), ?_⟩
  have e1 := h1 (max k0 (max K1 K2)) (by omega)
  have e2 := h2 (max k0 (max K1 K2)) (by omega)
  have e0 := Vs.up_le (fun k => precinctlaw02_wakes.mono k) (show k0 ≤ max k0 (max K1 K2) by omega) hk0
  generalize max k0 (max K1 K2) = q at e0 e1 e2 ⊢
  unfold precinctlaw02_PackPuts.f precinctlaw02_build.f
  simp only [Option.bind_some]
  rw [e1, Option.bind_some]
  rw [show Bu.toW (built l0) = Vs.toW (built l0) from rfl, e2, Option.bind_some, e0, Option.bind_some, if_pos rfl, if_pos rfl]
  simp
end Go.Proofs.Ytpbnfnaebdmagaa.Pure
