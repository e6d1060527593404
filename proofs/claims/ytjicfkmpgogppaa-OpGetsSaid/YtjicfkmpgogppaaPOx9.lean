-- printed by a program of this session out of the translation; see NOTES.md
import Derived.Test.YtjicfkmpgogppaaPOx0
import Derived.Test.YtjicfkmpgogppaaMust
namespace Go.Proofs.Ytjicfkmpgogppaa.PO
open Go.RowKit Go.Proofs.YtjicfkmpgogppaaW.PrintWords Go.Proofs.YtjicfkmpgogppaaW.PrintLast Go.Proofs.YtjicfkmpgogppaaW.PrintMore
attribute [local go_sem] max2_int min2_int max_two min_two max_three min_three max_four min_four   -- for this text's walks alone
set_option linter.unusedVariables false
set_option linter.unusedSimpArgs false

/-! ### pack_must: function 99 -/
def pack_must.f (a0 : Int) : Option (Unit) := if a0 = 0 then some () else none
theorem pack_must.calls (a0 : Int) (w : World) (h : pack_must.f a0 = some ()) :
  Calls Try.prog 99 #[.int .i64 a0] w fun e w' => e = .returned (.tuple #[]) ∧ Drawn0 w w' := by
 unfold pack_must.f at h
 by_cases c : a0 = 0
 ·subst c; exact (Go.Proofs.Ytjicfkmpgogppaa.Mt.must_ok w).mono (fun e w' he => ⟨he.1, he.2 ▸ ⟨0, rfl⟩⟩)
 ·rw [if_neg c] at h; cases h

end Go.Proofs.Ytjicfkmpgogppaa.PO
