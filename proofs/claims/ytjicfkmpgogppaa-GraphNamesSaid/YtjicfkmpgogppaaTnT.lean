/-
  GraphNames' closure, as the print takes it: a contract.
-/
import Derived.Test.YtjicfkmpgogppaaTnW
namespace Go.Proofs.Ytjicfkmpgogppaa.PG.Tn
set_option linter.unusedVariables false
set_option linter.unusedSimpArgs false
open Go Go.RowKit Go.Proofs.YtjicfkmpgogppaaW.PrintWords Go.Proofs.YtjicfkmpgogppaaW.PrintLast Go.Proofs.YtjicfkmpgogppaaW.PrintMore
def turn.f (s : ByteArray) (y : Int) : Option ByteArray := if s.size ≤ 9223372036854775807 then some (Gr.turn (mx 0 y % 26) s) else none
theorem turn.calls (s : ByteArray) (y : Int) (r : ByteArray) (w : World) {bn : Nat} (hn : w.heap[bn]? = some (.cells #[.int .i64 y] 3 (0, 0))) (h : turn.f s y = some r) :
    Calls Try.prog 20 #[.string s, .pointer (some ⟨bn, 0, none⟩)] w fun e w' => e = .returned (.string r) ∧ Below w.heap.size w w' := by
  unfold turn.f at h
  split at h
  · obtain rfl := Option.some.inj h
    exact Go.Proofs.Ytjicfkmpgogppaa.Tn.turn_walk s y bn w (by assumption) hn
  · cases h
end Go.Proofs.Ytjicfkmpgogppaa.PG.Tn
