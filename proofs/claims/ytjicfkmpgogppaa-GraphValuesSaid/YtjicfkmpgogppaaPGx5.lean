-- printed by a program of this session out of the translation; see NOTES.md
import Derived.Test.YtjicfkmpgogppaaPGx0
import Derived.Test.YtjicfkmpgogppaaNamed
namespace Go.Proofs.Ytjicfkmpgogppaa.PG
open Go.RowKit Go.Proofs.YtjicfkmpgogppaaW.PrintWords Go.Proofs.YtjicfkmpgogppaaW.PrintLast Go.Proofs.YtjicfkmpgogppaaW.PrintMore
attribute [local go_sem] max2_int min2_int max_two min_two max_three min_three max_four min_four   -- for this text's walks alone
set_option linter.unusedVariables false
set_option linter.unusedSimpArgs false

/-! ### grant_Named: function 49 -/
def grant_Named.f (a0 : ByteArray) : Option (Bool) := some (Nm.named a0)
theorem grant_Named.calls (a0 : ByteArray) (r : Bool) (w : World) (h : grant_Named.f a0 = some r) :
  Calls Try.prog 49 #[.string a0] w fun e w' => e = .returned (.bool r) ∧ Below w.heap.size w w' := by
 obtain rfl := Option.some.inj h
 exact Nm.named_walk a0 w

end Go.Proofs.Ytjicfkmpgogppaa.PG
