/-
  PackMakes: the law returns true, whatever it is given.
-/
import Derived.Test.YtpbnfnaebdmagaaPXx9
namespace Go.Proofs.Ytpbnfnaebdmagaa.Pure
set_option linter.unusedVariables false
set_option linter.unusedSimpArgs false
open Go Go.RowKit Go.Proofs.Ytpbnfnaebdmagaa.PX Go.Proofs.YtpbnfnaebdmagaaW.PrintWords Go.Proofs.YtpbnfnaebdmagaaW.PrintLast Go.Proofs.YtpbnfnaebdmagaaW.PrintMore
theorem PackMakes (a0 : Int) (a1 : ByteArray) (l2 : List (S56)) (_ : (Lit.int .i64 a0).wf = true) (_ : a1.size ≤ 140737488351232) (_ : ∀ x ∈ l2, (Lit.int .i64 x.f0).wf = true ∧ (Lit.int .i64 x.f1).wf = true ∧ x.f2.size ≤ maxLen ∧ (Lit.int .i64 x.f3).wf = true) (_ : l2.length ≤ maxLen) : precinctlaw02_PackMakes.f a0 a1 l2 = some true := rfl
end Go.Proofs.Ytpbnfnaebdmagaa.Pure
