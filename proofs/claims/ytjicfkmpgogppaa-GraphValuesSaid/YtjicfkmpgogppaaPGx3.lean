-- printed by a program of this session out of the translation; see NOTES.md
import Derived.Test.YtjicfkmpgogppaaPGx0
import Derived.Test.YtjicfkmpgogppaaFind
namespace Go.Proofs.Ytjicfkmpgogppaa.PG
open Go.RowKit Go.Proofs.YtjicfkmpgogppaaW.PrintWords Go.Proofs.YtjicfkmpgogppaaW.PrintLast Go.Proofs.YtjicfkmpgogppaaW.PrintMore
attribute [local go_sem] max2_int min2_int max_two min_two max_three min_three max_four min_four   -- for this text's walks alone
set_option linter.unusedVariables false
set_option linter.unusedSimpArgs false

/-! ### graph_Flow_find: function 50 -/
def graph_Flow_find.f (a0_0 : ByteArray) (l0_1 : List (S48)) (a1 : ByteArray) : Option (Int) := some (Fi.findN l0_1 a1 0)
theorem graph_Flow_find.calls (a0_0 : ByteArray) (A0_1 : Option Addr) (c0_1 : Nat) (l0_1 : List (S48)) (a1 : ByteArray) (r : Int) (w : World) (hr0_1 : Kd.C k48 w A0_1 l0_1.length l0_1) (hc0_1 : l0_1.length ≤ c0_1) (h : graph_Flow_find.f a0_0 l0_1 a1 = some r) :
  Calls Try.prog 50 #[.agg #[.string a0_0, .slice A0_1 l0_1.length c0_1], .string a1] w fun e w' => e = .returned (.int .i64 r) ∧ Below w.heap.size w w' := by
 obtain rfl := Option.some.inj h
 exact Fi.find_walk a0_0 l0_1 A0_1 c0_1 a1 w hr0_1 hc0_1

end Go.Proofs.Ytjicfkmpgogppaa.PG
