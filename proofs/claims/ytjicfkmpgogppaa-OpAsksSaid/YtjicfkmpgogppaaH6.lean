/-
  OpAsks: the law's contract, out of its walk by hand.
  OpAsks: the law returns true, whatever it is given.
-/
import Derived.Test.YtjicfkmpgogppaaOkW
namespace Go.Proofs.Ytjicfkmpgogppaa.PA
set_option linter.unusedVariables false
set_option linter.unusedSimpArgs false
open Go Go.RowKit Go.Proofs.YtjicfkmpgogppaaW.PrintWords Go.Proofs.YtjicfkmpgogppaaW.PrintLast Go.Proofs.YtjicfkmpgogppaaW.PrintMore
def precinctlaw18_OpAsks.f (a0_0 a0_1 a0_2 a0_3 : Int) (a0_4 : Bool) (a0_5 a0_6 a0_7 a0_8 : Int) (a0_9 a0_10 : ByteArray) (l0_11 : List S121) : Option Bool := some true
theorem precinctlaw18_OpAsks.calls (a0_0 a0_1 a0_2 a0_3 : Int) (a0_4 : Bool) (a0_5 a0_6 a0_7 a0_8 : Int) (a0_9 a0_10 : ByteArray) (A0_11 : Option Addr) (c0_11 : Nat) (l0_11 : List S121) (r : Bool) (w : World) (hr0_11 : Kd.C k121 w A0_11 l0_11.length l0_11) (hc0_11 : l0_11.length ≤ c0_11) (hz0_11 : l0_11.length * 80 ≤ 140737488351232) (hT_ : Aside0 (r = true)) (h : precinctlaw18_OpAsks.f a0_0 a0_1 a0_2 a0_3 a0_4 a0_5 a0_6 a0_7 a0_8 a0_9 a0_10 l0_11 = some r) :
  Calls Try.prog 13 #[.agg #[.int .i64 a0_0, .int .i64 a0_1, .int .i64 a0_2, .int .i64 a0_3, .bool a0_4, .int .i64 a0_5, .int .i64 a0_6, .int .i64 a0_7, .int .i64 a0_8, .string a0_9, .string a0_10, .slice A0_11 l0_11.length c0_11]] w fun e w' => e = .returned (.bool r) ∧ Below w.heap.size w w' := by
 rw [hT_.out]
 exact Ok.asks_walk a0_0 a0_1 a0_2 a0_3 a0_4 a0_5 a0_6 a0_7 a0_8 a0_9 a0_10 A0_11 c0_11 l0_11 w hr0_11 hc0_11 hz0_11
end Go.Proofs.Ytjicfkmpgogppaa.PA
namespace Go.Proofs.Ytjicfkmpgogppaa.Pure
set_option linter.unusedVariables false
set_option linter.unusedSimpArgs false
open Go Go.RowKit Go.Proofs.Ytjicfkmpgogppaa.PA Go.Proofs.YtjicfkmpgogppaaW.PrintWords Go.Proofs.YtjicfkmpgogppaaW.PrintLast Go.Proofs.YtjicfkmpgogppaaW.PrintMore
theorem OpAsks (a0_0 a0_1 a0_2 a0_3 : Int) (a0_4 : Bool) (a0_5 a0_6 a0_7 a0_8 : Int) (a0_9 a0_10 : ByteArray) (l0_11 : List S121) : precinctlaw18_OpAsks.f a0_0 a0_1 a0_2 a0_3 a0_4 a0_5 a0_6 a0_7 a0_8 a0_9 a0_10 l0_11 = some true := rfl
end Go.Proofs.Ytjicfkmpgogppaa.Pure
