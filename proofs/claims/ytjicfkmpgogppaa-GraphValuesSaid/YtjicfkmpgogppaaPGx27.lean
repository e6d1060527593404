-- printed by a program of this session out of the translation; see NOTES.md
import Derived.Test.YtjicfkmpgogppaaPGx0
import Derived.Test.YtjicfkmpgogppaaRdW
namespace Go.Proofs.Ytjicfkmpgogppaa.PG
open Go.RowKit Go.Proofs.YtjicfkmpgogppaaW.PrintWords Go.Proofs.YtjicfkmpgogppaaW.PrintLast Go.Proofs.YtjicfkmpgogppaaW.PrintMore
attribute [local go_sem] max2_int min2_int max_two min_two max_three min_three max_four min_four   -- for this text's walks alone
set_option linter.unusedVariables false
set_option linter.unusedSimpArgs false

/-! ### precinctref12_Read: function 23 -/
def precinctref12_Read.f (a0_0 : Int) (a0_1 : Int) (a0_2 : ByteArray) (l0_3 : List (S57)) : Option (ByteArray × (List (S125)) × Int) := if Rw.limB ⟨a0_0, a0_1, a0_2, l0_3⟩ = true then some (Rw.flowRW ⟨a0_0, a0_1, a0_2, l0_3⟩) else none
theorem precinctref12_Read.calls (a0_0 : Int) (a0_1 : Int) (a0_2 : ByteArray) (A0_3 : Option Addr) (c0_3 : Nat) (l0_3 : List (S57)) (r1 : ByteArray) (r2 : List (S125)) (r3 : Int) (w : World) (hr0_3 : Kd.C k57 w A0_3 l0_3.length l0_3) (hc0_3 : l0_3.length ≤ c0_3) (h : precinctref12_Read.f a0_0 a0_1 a0_2 l0_3 = some (r1, r2, r3)) :
  Calls Try.prog 23 #[.agg #[.int .i64 a0_0, .int .i64 a0_1, .string a0_2, .slice A0_3 l0_3.length c0_3]] w fun e w' => ∃ v1_ : Value, e = .returned (.tuple #[.agg #[.string r1, v1_], .int .i64 r3]) ∧ Kd.V k125 125 w' w.heap.size (fun k_ => (w.heap.size ≤ k_)) v1_ r2 ∧ Below w.heap.size w w' := by
 unfold precinctref12_Read.f at h
 split at h
 ·rename_i hl
  have h := Option.some.inj h
  refine (Rw.read_walk ⟨a0_0, a0_1, a0_2, l0_3⟩ A0_3 c0_3 w hr0_3 hc0_3 hl).mono fun e w' hp => ?_
  rw [h] at hp
  exact hp
 ·cases h

end Go.Proofs.Ytjicfkmpgogppaa.PG
