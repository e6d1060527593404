/-
  The statement GraphBack, plain.
-/
import Derived.Test.YtjicfkmpgogppaaGbP
namespace Go.Proofs.Ytjicfkmpgogppaa.Pure
set_option linter.unusedVariables false
set_option linter.unusedSimpArgs false
open Go Go.RowKit Go.Proofs.Ytjicfkmpgogppaa.PG
theorem GraphBack : ∀ (a0_0 : ByteArray) (l0_1 : List (S124)) (l1 : List (S137)), (∀ x ∈ l1, (Lit.int .i64 x.f0).wf = true ∧ (Lit.int .i64 x.f1).wf = true ∧ x.f2.size ≤ maxLen ∧ (Lit.int .i64 x.f3).wf = true) → l1.length ≤ maxLen → ∃ k, precinctlaw12_GraphBack.f k a0_0 l0_1 l1 = some true := fun nm l l1 _ _ => Gv.back_pure nm l l1
end Go.Proofs.Ytjicfkmpgogppaa.Pure
