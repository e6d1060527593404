-- printed by a program of this session out of the translation; see NOTES.md
import Derived.Test.YtpbnfnaebdmagaaPXx0
import Derived.Test.YtpbnfnaebdmagaaPk
namespace Go.Proofs.Ytpbnfnaebdmagaa.PX
open Go.RowKit Go.Proofs.YtpbnfnaebdmagaaW.PrintWords Go.Proofs.YtpbnfnaebdmagaaW.PrintLast Go.Proofs.YtpbnfnaebdmagaaW.PrintMore
attribute [local go_sem] max2_int min2_int max_two min_two max_three min_three max_four min_four   -- for this text's walks alone
set_option linter.unusedVariables false
set_option linter.unusedSimpArgs false

/-! ### pack_Put: function 10 -/
def pack_Put.f (k : Nat) (a0_0 : Int) (a0_1 : Int) (a0_2 : ByteArray) (l0_3 : List (S26)) : Option (ByteArray × Int) := Pk.pack_Put.f k a0_0 a0_1 a0_2 l0_3
theorem pack_Put.mono : ∀ a0 a1 a2 a3 k, LeO (pack_Put.f k a0 a1 a2 a3) (pack_Put.f (k + 1) a0 a1 a2 a3) := fun a0 a1 a2 a3 k => Pk.pack_Put.mono k a0 a1 a2 a3
theorem pack_Put.calls (k : Nat) (a0_0 : Int) (a0_1 : Int) (a0_2 : ByteArray) (A0_3 : Option Addr) (c0_3 : Nat) (l0_3 : List (S26)) (r1 : ByteArray) (r2 : Int) (w : World) (hr0_3 : Kd.C k26 w A0_3 l0_3.length l0_3) (hc0_3 : l0_3.length ≤ c0_3) (h : pack_Put.f k a0_0 a0_1 a0_2 l0_3 = some (r1, r2)) :
    Calls Try.prog 10 #[.agg #[.int .i64 a0_0, .int .i64 a0_1, .string a0_2, .slice A0_3 l0_3.length c0_3]] w fun e w' => e = .returned (.tuple #[.string r1, .int .i64 r2]) ∧ Below w.heap.size w w' := Pk.pack_Put.calls k a0_0 a0_1 a0_2 A0_3 c0_3 l0_3 r1 r2 w hr0_3 hc0_3 h

end Go.Proofs.Ytpbnfnaebdmagaa.PX
