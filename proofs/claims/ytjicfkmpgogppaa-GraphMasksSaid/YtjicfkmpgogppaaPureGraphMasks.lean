/-
  The statement GraphMasks, plain.
-/
import Derived.Test.YtjicfkmpgogppaaGrM
namespace Go.Proofs.Ytjicfkmpgogppaa.Pure
set_option linter.unusedVariables false
set_option linter.unusedSimpArgs false
open Go Go.RowKit Go.Proofs.Ytjicfkmpgogppaa.PG
theorem GraphMasks : ∀ (a0_0 : ByteArray) (l0_1 : List (S124)), ∃ k, precinctlaw12_GraphMasks.f k a0_0 l0_1 = some true := Gr.masks_pure
end Go.Proofs.Ytjicfkmpgogppaa.Pure
