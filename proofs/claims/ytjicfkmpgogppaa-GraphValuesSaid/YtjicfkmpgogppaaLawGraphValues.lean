/- The row of the law GraphValues: for every input the law returns true, and the input reads as it did: out of its plain statement (Pure.GraphValues) and its walk. -/
import Derived.Test.YtjicfkmpgogppaaRows
import Derived.Test.YtjicfkmpgogppaaPGx33
import Derived.Test.YtjicfkmpgogppaaPureGraphValues
import Derived.Test.YtjicfkmpgogppaaOpen
import Derived.Test.YtjicfkmpgogppaaOpenItem
import Derived.Test.YtjicfkmpgogppaaOpenNode
import Derived.WalkKit
import Derived.ProofKit
import Derived.OpenShut
import Derived.ShutString
import Derived.ChangeOld
import Derived.Below
import Derived.Carry
import Derived.SizedLaws
import Derived.Deep.CondSized
import Derived.JoinedCond
namespace Go.Proofs.Ytjicfkmpgogppaa.graphValues
open Go.ChangeShapes Go.WideShapes Go.ChangeAt Go.RowKit Go.Proofs.YtjicfkmpgogppaaW.PrintWords
open Go.ChangeMaps (open_string shut_string)
set_option linter.unusedVariables false
theorem own : ownKnob Try.prog.godebug = none := by kernel_rfl
theorem laidOut : laidOutB Try.prog = true := by kernel_rfl
set_option maxRecDepth 100000 in
theorem lifted (os : Os) (started : os.Started) (H : Type) (enc : TypeId × Value → H) :
    ReturnsInHanded {} Try.checked os 6 .any (Rows.graphValuesSpec.pre6 enc Try.prog Try.f6 Rows.graphValuesRow.domain false) (Rows.graphValuesSpec.post enc Try.prog Try.f6 false true false false) := by
  refine returnsInHanded_of_change_sized (C := Try.checked) own started (by kernel_rfl) Try.func6
    (ChangeSpec.witness6 (enc := enc) (C := Try.checked) false ⟨#[], #[.agg #[.string ByteArray.empty, .slice none 0 0], .slice none 0 0], []⟩ 8 (by kernel_rfl) (by kernel_rfl) (by kernel_rfl) (by kernel_rfl)) ?_
  intro W base args ds gs before hval0 hW hcnd hsz0 _
  have hsz : (DataW.weightsEach Try.prog (Try.f6.params.toList ++ Rows.graphValuesSpec.plain.varTypes Try.prog) (ds ++ gs)).all (· ≤ reachBytes) = true := hsz0
  have hval : ∀ (j : Nat) t v, Try.f6.params[j]? = some t → args[j]? = some v → Value.okWide Try.prog W .any base t v := hval0
  have hW' := hW
  obtain ⟨p, q, hA0, hV, rfl, hfz, hnd⟩ := hW
  have hA : DataW.TrodAll enc Try.prog W 0 (fun _ => true) true Try.f6.params.toList args.toList ds p := hA0
  rw [Try.params6] at hA hval hsz
  obtain ⟨v0, vs0, d0, ds0, p0, q0, hargs, rfl, rfl, h0, r0⟩ := trodAll_cons hA
  obtain ⟨v1, vs1, d1, ds1, p1, q1, rfl, rfl, rfl, h1, r1⟩ := trodAll_cons r0
  obtain ⟨rfl, rfl, rfl⟩ := trodAll_nil r1
  obtain rfl : args = #[v0, v1] := by cases args; simp_all
  obtain ⟨rfl, rfl⟩ := trodVars_none hV
  have k0 := h0
  obtain ⟨cs0, n0, rfl, hl0, hf0⟩ := Open.open_agg Try.underlying24 (by kernel_rfl) (by kernel_rfl) (hval 0 24 v0 rfl rfl) h0
  obtain ⟨c0_0, r0_0, rfl, hl0_0⟩ := Open.list_cons hl0
  obtain ⟨c0_1, r0_1, rfl, hl0_1⟩ := Open.list_cons hl0_0
  obtain rfl := List.eq_nil_of_length_eq_zero hl0_1
  obtain ⟨u0_0, y0_0, hu0_0, ht0_0, hb0_0⟩ := hf0 0 _ rfl
  obtain rfl : c0_0 = u0_0 := by simpa using hu0_0
  obtain ⟨a0_0, e0_0, rfl, w0_0⟩ := DataW.trod_string Try.underlying9 ht0_0
  obtain rfl : c0_0 = _ := by simpa using e0_0
  obtain ⟨u0_1, y0_1, hu0_1, ht0_1, hb0_1⟩ := hf0 1 _ rfl
  obtain rfl : c0_1 = u0_1 := by simpa using hu0_1
  obtain ⟨l0_1, ⟨A0_1, z0_1, e0_1, hc0_1, hr0_1⟩, go0_1, _⟩ := (Open.opens_slice Try.underlying22 (by kernel_rfl) Open.opens_node) _ _ _ ht0_1
  obtain rfl : c0_1 = _ := by simpa using e0_1
  clear hf0
  have k1 := h1
  obtain ⟨A1, l1, c1, rfl, hc1, hr1, hg1, hb1⟩ := Open.open_row (d := PG.k137) Try.underlying50 (Open.opens_slice Try.underlying50 (by kernel_rfl) Open.opens_item) (hval 1 50 v1 rfl rfl) h1
  clear hA0 hval0 hsz0
  obtain ⟨k, h⟩ := Pure.GraphValues a0_0 l0_1 l1 hg1.2 hg1.1
  refine (PG.precinctlaw12_GraphValues.calls k a0_0 A0_1 z0_1 l0_1 A1 c1 l1 true W hr0_1 hc0_1 hr1 hc1 ⟨rfl⟩ h).mono fun e W' ⟨he, bel0⟩ => ?_
  have bel : Below W.heap.size W W' := bel0
  subst he
  exact ⟨_, rfl, _, _, _, [], _, [], hW', trodAll_mk1 (shut_bool Try.underlying4 _), (trodAll_cons_mk (Below.trod laidOut (by kernel_rfl) (of_decide_eq_true (by kernel_rfl)) k0 bel (Open.trod_lt' k0)) (trodAll_cons_mk (Below.trod laidOut (by kernel_rfl) (of_decide_eq_true (by kernel_rfl)) k1 bel (Open.trod_lt' k1)) trodAll_mk0)), rfl, bel.frame _, fun h => by cases h⟩
theorem over : Rows.graphValuesRow.holds Try.pinned (OpenSpec.ofChange Rows.graphValuesSpec) :=
  OpenClaim.holds_of_wide 6 Try.f6 rfl rfl rfl rfl rfl rfl rfl ⟨rfl, rfl, rfl, rfl, rfl⟩ rfl rfl rfl rfl rfl (by kernel_rfl) Try.func6 (by kernel_rfl)
    (of_decide_eq_true (by kernel_rfl)) (by unfold Func.isWrapper; first | (rw [if_pos (by decide +kernel)]; kernel_rfl) | (rw [if_neg (by decide +kernel)]; exact ⟨rfl, rfl⟩))
    (fun os started H enc _ => lifted os started H enc)
theorem proved : Rows.GraphValuesSaid := over
#print axioms proved
end Go.Proofs.Ytjicfkmpgogppaa.graphValues
namespace Go.Proofs.Ytjicfkmpgogppaa
/-- The row, under a short name, for the claim. -/
theorem graphValues_holds : Rows.GraphValuesSaid := graphValues.proved
end Go.Proofs.Ytjicfkmpgogppaa
