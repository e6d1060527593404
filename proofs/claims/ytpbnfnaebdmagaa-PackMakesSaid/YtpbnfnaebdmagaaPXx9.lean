/-
  PackMakes: the law's contract, out of its walk by hand.
-/
import Derived.Test.YtpbnfnaebdmagaaPackMk
namespace Go.Proofs.Ytpbnfnaebdmagaa.PX
set_option linter.unusedVariables false
set_option linter.unusedSimpArgs false
open Go Go.RowKit Go.Proofs.YtpbnfnaebdmagaaW.PrintWords Go.Proofs.YtpbnfnaebdmagaaW.PrintLast Go.Proofs.YtpbnfnaebdmagaaW.PrintMore
def precinctlaw02_PackMakes.f (a0 : Int) (a1 : ByteArray) (l2 : List (S56)) : Option Bool := some true
theorem precinctlaw02_PackMakes.calls (a0 : Int) (a1 : ByteArray) (A2 : Option Addr) (c2 : Nat) (l2 : List (S56)) (r : Bool) (w : World) (hr2 : Kd.C k56 w A2 l2.length l2) (hc2 : l2.length ≤ c2) (hT_ : Aside0 (r = true)) (h : precinctlaw02_PackMakes.f a0 a1 l2 = some r) :
    Calls Try.prog 5 #[.int .i64 a0, .string a1, .slice A2 l2.length c2] w fun e w' => e = .returned (.bool r) ∧ Below w.heap.size w w' := by
  rw [hT_.out]
  exact Mk.makes_walk a0 a1 l2 A2 c2 w hr2 hc2
end Go.Proofs.Ytpbnfnaebdmagaa.PX
