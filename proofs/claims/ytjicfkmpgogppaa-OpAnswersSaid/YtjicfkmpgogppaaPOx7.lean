-- printed by a program of this session out of the translation; see NOTES.md
import Derived.Test.YtjicfkmpgogppaaPOx0
import Derived.Test.YtjicfkmpgogppaaPOx6
import Derived.Test.YtjicfkmpgogppaaRefOp
namespace Go.Proofs.Ytjicfkmpgogppaa.PO
open Go.RowKit Go.Proofs.YtjicfkmpgogppaaW.PrintWords Go.Proofs.YtjicfkmpgogppaaW.PrintLast Go.Proofs.YtjicfkmpgogppaaW.PrintMore
attribute [local go_sem] max2_int min2_int max_two min_two max_three min_three max_four min_four   -- for this text's walks alone
set_option linter.unusedVariables false
set_option linter.unusedSimpArgs false

/-! ### precinctref18_Put: function 30 -/
def precinctref18_Put.f (k : Nat) (a0_0 : ByteArray) (a0_1 : Int) (l0_2 : List (S57)) : Option (ByteArray × Int) := Ro.put18 k a0_0 a0_1 l0_2
theorem precinctref18_Put.mono : ∀ a0 a1 a2 k, LeO (precinctref18_Put.f k a0 a1 a2) (precinctref18_Put.f (k + 1) a0 a1 a2) := fun a0 a1 a2 k => LeO.bind (precinctref02_Put.mono _ _ _ _ k) (fun _ => LeO.refl _)
theorem precinctref18_Put.calls (k : Nat) (a0_0 : ByteArray) (a0_1 : Int) (A0_2 : Option Addr) (c0_2 : Nat) (l0_2 : List (S57)) (r1 : ByteArray) (r2 : Int) (w : World) (hr0_2 : Kd.C k57 w A0_2 l0_2.length l0_2) (hc0_2 : l0_2.length ≤ c0_2) (h : precinctref18_Put.f k a0_0 a0_1 l0_2 = some (r1, r2)) :
  Calls Try.prog 30 #[.agg #[.string a0_0, .int .i64 a0_1, .slice A0_2 l0_2.length c0_2]] w fun e w' => e = .returned (.tuple #[.string r1, .int .i64 r2]) ∧ Below w.heap.size w w' := Ro.put18_calls k a0_0 a0_1 A0_2 c0_2 l0_2 r1 r2 w hr0_2 hc0_2 h

end Go.Proofs.Ytjicfkmpgogppaa.PO
