-- printed by a program of this session out of the translation; see NOTES.md
import Derived.Test.YtjicfkmpgogppaaPGx0
import Derived.Test.YtjicfkmpgogppaaFlows
namespace Go.Proofs.Ytjicfkmpgogppaa.PG
open Go.RowKit Go.Proofs.YtjicfkmpgogppaaW.PrintWords Go.Proofs.YtjicfkmpgogppaaW.PrintLast Go.Proofs.YtjicfkmpgogppaaW.PrintMore
attribute [local go_sem] max2_int min2_int max_two min_two max_three min_three max_four min_four   -- for this text's walks alone
set_option linter.unusedVariables false
set_option linter.unusedSimpArgs false

/-! ### precinctlaw12_flows: function 14 -/
def precinctlaw12_flows.f (a0_0 : ByteArray) (l0_1 : List (S124)) : Option (ByteArray × (List (S48)) × ByteArray × (List (S125))) := some (a0_0, (l0_1.take 20).map Fw.toA, a0_0, (l0_1.take 20).map Fw.toB)
theorem precinctlaw12_flows.calls (a0_0 : ByteArray) (A0_1 : Option Addr) (c0_1 : Nat) (l0_1 : List (S124)) (r1 : ByteArray) (r2 : List (S48)) (r3 : ByteArray) (r4 : List (S125)) (w : World) (hr0_1 : Kd.C k124 w A0_1 l0_1.length l0_1) (hc0_1 : l0_1.length ≤ c0_1) (h : precinctlaw12_flows.f a0_0 l0_1 = some (r1, r2, r3, r4)) :
  Calls Try.prog 14 #[.agg #[.string a0_0, .slice A0_1 l0_1.length c0_1]] w fun e w' => ∃ v1_ v3_ : Value, e = .returned (.tuple #[.agg #[.string r1, v1_], .agg #[.string r3, v3_]]) ∧ Kd.S k48 48 w' w.heap.size (fun _ => True) v1_ r2 ∧ Kd.S k125 125 w' w.heap.size (fun _ => True) v3_ r4 ∧ Below w.heap.size w w' := by
 obtain ⟨rfl, rfl, rfl, rfl⟩ : r1 = a0_0 ∧ r2 = (l0_1.take 20).map Fw.toA ∧ r3 = a0_0 ∧ r4 = (l0_1.take 20).map Fw.toB := by
  have e := Option.some.inj h
  simp only [Prod.mk.injEq] at e
  exact ⟨e.1.symm, e.2.1.symm, e.2.2.1.symm, e.2.2.2.symm⟩
 exact Fw.flows_walk _ l0_1 A0_1 c0_1 w hr0_1 hc0_1

end Go.Proofs.Ytjicfkmpgogppaa.PG
