/-
  pack.must: what is no value leaves by a panic.
-/
import Derived.Test.YtjicfkmpgogppaaPOx0
import Derived.LoopTactic
import Derived.Outline
import Derived.Recover
import Derived.WalkSmall
namespace Go.Proofs.Ytjicfkmpgogppaa.Mt
set_option linter.unusedVariables false
set_option linter.unusedSimpArgs false
open Go Go.RowKit Go.Proofs.Ytjicfkmpgogppaa.PO Go.Proofs.YtjicfkmpgogppaaW.PrintWords Go.Proofs.YtjicfkmpgogppaaW.PrintLast Go.Proofs.YtjicfkmpgogppaaW.PrintMore
abbrev fault (c : Int) : PanicEntry := { v := .iface 179 (.int .i64 c), recovered := false }
set_option maxHeartbeats 4000000 in
set_option maxRecDepth 100000 in
theorem must_ok (w : World) : Calls Try.prog 99 #[.int .i64 0] w fun e w' => e = .returned (.tuple #[]) ∧ w' = w := by
  go_enter Try.func99, Try.ntmps99
  go_wp2
  go_end0
  exact ⟨rfl, rfl⟩
set_option maxHeartbeats 4000000 in
set_option maxRecDepth 100000 in
theorem must_bad (c : Int) (h : c ≠ 0) (w : World) : Calls Try.prog 99 #[.int .i64 c] w fun e w' => e = .panicked [fault c] ∧ w' = w := by
  have e1 : (c != 0) = true := bne_iff_ne.mpr h
  go_enter Try.func99, Try.ntmps99
  go_wp2
  exact ⟨rfl, rfl, rfl⟩
end Go.Proofs.Ytjicfkmpgogppaa.Mt
