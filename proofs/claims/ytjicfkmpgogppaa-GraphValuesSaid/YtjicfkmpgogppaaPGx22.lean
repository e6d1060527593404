-- printed by a program of this session out of the translation; see NOTES.md
import Derived.Test.YtjicfkmpgogppaaPGx0
import Derived.Test.YtjicfkmpgogppaaBuildB
namespace Go.Proofs.Ytjicfkmpgogppaa.PG
open Go.RowKit Go.Proofs.YtjicfkmpgogppaaW.PrintWords Go.Proofs.YtjicfkmpgogppaaW.PrintLast Go.Proofs.YtjicfkmpgogppaaW.PrintMore
attribute [local go_sem] max2_int min2_int max_two min_two max_three min_three max_four min_four   -- for this text's walks alone
set_option linter.unusedVariables false
set_option linter.unusedSimpArgs false

/-! ### precinctlaw12_build: function 21 -/
open Bu in
def precinctlaw12_build.f (l0 : List (S137)) : Option (Int × Int × ByteArray × (List (S54)) × Int × Int × ByteArray × (List (S57))) := some ((Bu.built l0).f0, (Bu.built l0).f1, (Bu.built l0).f2, (Bu.built l0).f3, (Bu.toW (Bu.built l0)).f0, (Bu.toW (Bu.built l0)).f1, (Bu.toW (Bu.built l0)).f2, (Bu.toW (Bu.built l0)).f3)
theorem precinctlaw12_build.calls (A0 : Option Addr) (c0 : Nat) (l0 : List (S137)) (r1 r2 : Int) (r3 : ByteArray) (r4 : List (S54)) (r5 r6 : Int) (r7 : ByteArray) (r8 : List (S57)) (w : World) (hr0 : Kd.C k137 w A0 l0.length l0) (hc0 : l0.length ≤ c0) (h : precinctlaw12_build.f l0 = some (r1, r2, r3, r4, r5, r6, r7, r8)) :
  Calls Try.prog 21 #[.slice A0 l0.length c0] w fun e w' => ∃ v3_ v7_ : Value, e = .returned (.tuple #[.agg #[.int .i64 r1, .int .i64 r2, .string r3, v3_], .agg #[.int .i64 r5, .int .i64 r6, .string r7, v7_]]) ∧ Kd.R k54 54 w' w.heap.size (fun _ => True) v3_ r4 ∧ Kd.R k57 57 w' w.heap.size (fun _ => True) v7_ r8 ∧ Below w.heap.size w w' := Bu.build_calls A0 c0 l0 r1 r2 r3 r4 r5 r6 r7 r8 w hr0 hc0 (Option.some.inj h)

end Go.Proofs.Ytjicfkmpgogppaa.PG
