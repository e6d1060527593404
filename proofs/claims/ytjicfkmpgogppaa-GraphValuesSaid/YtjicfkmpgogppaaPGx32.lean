-- printed by a program of this session out of the translation; see NOTES.md
import Derived.Test.YtjicfkmpgogppaaPGx0
import Derived.Test.YtjicfkmpgogppaaRvW
namespace Go.Proofs.Ytjicfkmpgogppaa.PG
open Go.RowKit Go.Proofs.YtjicfkmpgogppaaW.PrintWords Go.Proofs.YtjicfkmpgogppaaW.PrintLast Go.Proofs.YtjicfkmpgogppaaW.PrintMore
attribute [local go_sem] max2_int min2_int max_two min_two max_three min_three max_four min_four   -- for this text's walks alone
set_option linter.unusedVariables false
set_option linter.unusedSimpArgs false

/-! ### precinctref12_Value: function 26 -/
def precinctref12_Value.f (a0_0 : ByteArray) (l0_1 : List (S125)) : Option (Int × Int × ByteArray × (List (S57))) := if (decide (l0_1.length ≤ 1000000) && l0_1.all fun x => decide (x.f1.length ≤ 1000000)) = true then some (2, 0, ⟨#[]⟩, [Vw.strW a0_0, Vw.allW (l0_1.map Vw.nodeW)]) else none
theorem precinctref12_Value.calls (a0_0 : ByteArray) (A0_1 : Option Addr) (c0_1 : Nat) (l0_1 : List (S125)) (r1 : Int) (r2 : Int) (r3 : ByteArray) (r4 : List (S57)) (w : World) (hr0_1 : Kd.C k125 w A0_1 l0_1.length l0_1) (hc0_1 : l0_1.length ≤ c0_1) (h : precinctref12_Value.f a0_0 l0_1 = some (r1, r2, r3, r4)) :
  Calls Try.prog 26 #[.agg #[.string a0_0, .slice A0_1 l0_1.length c0_1]] w fun e w' => ∃ v3_ : Value, e = .returned (.agg #[.int .i64 r1, .int .i64 r2, .string r3, v3_]) ∧ Kd.V k57 57 w' w.heap.size (fun k_ => (w.heap.size ≤ k_)) v3_ r4 ∧ Below w.heap.size w w' := by
 unfold precinctref12_Value.f at h
 split at h
 ·rename_i hl
  rw [Bool.and_eq_true, decide_eq_true_iff, List.all_eq_true] at hl
  have h := Option.some.inj h
  simp only [Prod.mk.injEq] at h
  obtain ⟨rfl, rfl, rfl, rfl⟩ := h
  exact Vw.value_walk a0_0 l0_1 A0_1 c0_1 w hr0_1 hl.1 (fun x hx => of_decide_eq_true (hl.2 x hx))
 ·cases h

end Go.Proofs.Ytjicfkmpgogppaa.PG
