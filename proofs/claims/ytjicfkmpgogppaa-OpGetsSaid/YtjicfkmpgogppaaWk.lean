/-
  pack's bytes that the document fixes.
-/
import Derived.Test.YtjicfkmpgogppaaPOx14
import Derived.KernelRfl
namespace Go.Proofs.Ytjicfkmpgogppaa.Wk
set_option linter.unusedVariables false
set_option linter.unusedSimpArgs false
open Go Go.RowKit Go.Proofs.Ytjicfkmpgogppaa.PO Go.Proofs.YtjicfkmpgogppaaW.PrintWords Go.Proofs.YtjicfkmpgogppaaW.PrintLast Go.Proofs.YtjicfkmpgogppaaW.PrintMore
theorem wakes : ∃ k, precinctlaw18_wakes.f k = some true := ⟨24, by kernel_rfl⟩
end Go.Proofs.Ytjicfkmpgogppaa.Wk
