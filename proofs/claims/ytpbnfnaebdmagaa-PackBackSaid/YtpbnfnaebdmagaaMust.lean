/-
  pack.must: what is no value leaves by a panic.
-/
import Derived.Test.YtpbnfnaebdmagaaPXx0
import Derived.LoopTactic
import Derived.Outline
import Derived.Recover
import Derived.WalkSmall
namespace Go.Proofs.Ytpbnfnaebdmagaa.Mt
set_option linter.unusedVariables false
set_option linter.unusedSimpArgs false
open Go Go.RowKit Go.Proofs.Ytpbnfnaebdmagaa.PX Go.Proofs.YtpbnfnaebdmagaaW.PrintWords Go.Proofs.YtpbnfnaebdmagaaW.PrintLast Go.Proofs.YtpbnfnaebdmagaaW.PrintMore
abbrev fault (c : Int) : PanicEntry := { v := .iface 66 (.int .i64 c), recovered := false }
set_option maxHeartbeats 4000000 in
set_option maxRecDepth 100000 in
theorem must_ok (w : World) : Calls Try.prog 29 #[.int .i64 0] w fun e w' => e = .returned (.tuple #[]) ∧ w' = w := by
  go_enter Try.func29, Try.ntmps29
  go_wp2
  go_end0
  exact ⟨rfl, rfl⟩
set_option maxHeartbeats 4000000 in
set_option maxRecDepth 100000 in
theorem must_bad (c : Int) (h : c ≠ 0) (w : World) : Calls Try.prog 29 #[.int .i64 c] w fun e w' => e = .panicked [fault c] ∧ w' = w := by
  have e1 : (c != 0) = true := bne_iff_ne.mpr h
  go_enter Try.func29, Try.ntmps29
  go_wp2
  exact ⟨rfl, rfl, rfl⟩
end Go.Proofs.Ytpbnfnaebdmagaa.Mt
