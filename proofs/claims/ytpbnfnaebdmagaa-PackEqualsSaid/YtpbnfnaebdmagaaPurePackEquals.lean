/-
  PackEquals: which values are alike is the document's answer.
-/
import Derived.Test.YtpbnfnaebdmagaaPXx8
import Derived.Test.YtpbnfnaebdmagaaPv
import Derived.Test.YtpbnfnaebdmagaaWk
namespace Go.Proofs.Ytpbnfnaebdmagaa.Pure
set_option linter.unusedVariables false
set_option linter.unusedSimpArgs false
open Go Go.RowKit Go.Proofs.Ytpbnfnaebdmagaa.Plain Go.Proofs.Ytpbnfnaebdmagaa.Bu Go.Proofs.Ytpbnfnaebdmagaa.PX Go.Proofs.YtpbnfnaebdmagaaW.PrintWords Go.Proofs.YtpbnfnaebdmagaaW.PrintLast Go.Proofs.YtpbnfnaebdmagaaW.PrintMore
theorem PackEquals (l0 l1 : List S56) (h0 : ∀ x ∈ l0, (Lit.int .i64 x.f0).wf = true ∧ (Lit.int .i64 x.f1).wf = true ∧ x.f2.size ≤ maxLen ∧ (Lit.int .i64 x.f3).wf = true) (hl0 : l0.length ≤ maxLen) (h1 : ∀ x ∈ l1, (Lit.int .i64 x.f0).wf = true ∧ (Lit.int .i64 x.f1).wf = true ∧ x.f2.size ≤ maxLen ∧ (Lit.int .i64 x.f3).wf = true) (hl1 : l1.length ≤ maxLen) : ∃ k, precinctlaw02_PackEquals.f k l0 l1 = some true := by
  obtain ⟨k0, hk0⟩ := Wk.wakes
  obtain ⟨K, hK⟩ := Eq.req_some (built l0) (built_small l0) (built l1)
  refine ⟨max k0 K, ?_⟩
  have e0 := Vs.up_le (fun k => precinctlaw02_wakes.mono k) (show k0 ≤ max k0 K by omega) hk0
  have e1 := Eq.req_le (show K ≤ max k0 K by omega) hK
  have es := Eq.eqV_symm (built l1) (built l0)
  have er := Eq.eqV_refl (built l0)
  generalize max k0 K = q at e0 e1 ⊢
  unfold precinctlaw02_PackEquals.f precinctlaw02_build.f pack_Equal.f
  simp only [Option.bind_some, show Bu.toW = Vs.toW from rfl]
  rw [e0]
  simp only [Option.bind_some, if_true, e1]
  have ex : (⟨(built l0).f0, (built l0).f1, (built l0).f2, (built l0).f3⟩ : Vs.V) = built l0 := by cases built l0; rfl
  have ey : (⟨(built l1).f0, (built l1).f1, (built l1).f2, (built l1).f3⟩ : Vs.V) = built l1 := by cases built l1; rfl
  simp only [ex, ey, er, es, if_true, Option.bind_some]
  simp
end Go.Proofs.Ytpbnfnaebdmagaa.Pure
