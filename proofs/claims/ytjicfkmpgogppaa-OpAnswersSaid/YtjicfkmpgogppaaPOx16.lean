-- printed by a program of this session out of the translation; see NOTES.md
import Derived.Test.YtjicfkmpgogppaaPOx0
import Derived.Test.YtjicfkmpgogppaaPOx6
import Derived.Test.YtjicfkmpgogppaaRefOp
namespace Go.Proofs.Ytjicfkmpgogppaa.PO
open Go.RowKit Go.Proofs.YtjicfkmpgogppaaW.PrintWords Go.Proofs.YtjicfkmpgogppaaW.PrintLast Go.Proofs.YtjicfkmpgogppaaW.PrintMore
attribute [local go_sem] max2_int min2_int max_two min_two max_three min_three max_four min_four   -- for this text's walks alone
set_option linter.unusedVariables false
set_option linter.unusedSimpArgs false

/-! ### precinctref18_Bytes: function 33 -/
def precinctref18_Bytes.f (k : Nat) (a0_0 : Int) (a0_1 : Int) (a0_2 : Int) (a0_3 : ByteArray) (l0_4 : List (S57)) : Option (ByteArray) := Ro.bytes18 k a0_0 a0_1 a0_2 a0_3 l0_4
theorem precinctref18_Bytes.mono : ∀ a0 a1 a2 a3 a4 k, LeO (precinctref18_Bytes.f k a0 a1 a2 a3 a4) (precinctref18_Bytes.f (k + 1) a0 a1 a2 a3 a4) := fun a0 a1 a2 a3 a4 k => LeO.bind (precinctref02_Put.mono _ _ _ _ k) (fun _ => LeO.refl _)
theorem precinctref18_Bytes.calls (k : Nat) (a0_0 : Int) (a0_1 : Int) (a0_2 : Int) (a0_3 : ByteArray) (A0_4 : Option Addr) (c0_4 : Nat) (l0_4 : List (S57)) (r : ByteArray) (w : World) (hr0_4 : Kd.C k57 w A0_4 l0_4.length l0_4) (hc0_4 : l0_4.length ≤ c0_4) (h : precinctref18_Bytes.f k a0_0 a0_1 a0_2 a0_3 l0_4 = some r) :
  Calls Try.prog 33 #[.agg #[.int .i64 a0_0, .int .i64 a0_1, .int .i64 a0_2, .string a0_3, .slice A0_4 l0_4.length c0_4]] w fun e w' => e = .returned (.string r) ∧ Below w.heap.size w w' := Ro.bytes18_calls k a0_0 a0_1 a0_2 a0_3 A0_4 c0_4 l0_4 r w hr0_4 hc0_4 h

end Go.Proofs.Ytjicfkmpgogppaa.PO
