/- The row of the law NodeSteps: for every input the law returns true, and the input reads as it did: out of its plain statement (Pure.NodeSteps) and its walk. -/
import Derived.Test.YtelhajoedlaohaaRows
import Derived.Test.YtelhajoedlaohaaPNodeStepsx3
import Derived.Test.YtelhajoedlaohaaPureNodeSteps
import Derived.Test.YtelhajoedlaohaaOpen
import Derived.WalkKit
import Derived.ProofKit
import Derived.OpenShut
import Derived.ShutString
import Derived.ChangeOld
import Derived.Below
import Derived.Carry
import Derived.SizedLaws
import Derived.Deep.CondSized
import Derived.JoinedCond
namespace Go.Proofs.Ytelhajoedlaohaa.nodeSteps
open Go.ChangeShapes Go.WideShapes Go.ChangeAt Go.RowKit Go.Proofs.YtelhajoedlaohaaW.PrintWords
open Go.ChangeMaps (open_string shut_string)
set_option linter.unusedVariables false
theorem own : ownKnob Try.prog.godebug = none := by kernel_rfl
theorem laidOut : laidOutB Try.prog = true := by kernel_rfl
set_option maxRecDepth 100000 in
theorem lifted (os : Os) (started : os.Started) (H : Type) (enc : TypeId × Value → H) :
    ReturnsInHanded {} Try.checked os 7 .any (Rows.nodeStepsSpec.pre6 enc Try.prog Try.f7 Rows.nodeStepsRow.domain false) (Rows.nodeStepsSpec.post enc Try.prog Try.f7 false true false false) := by
  refine returnsInHanded_of_change_sized (C := Try.checked) own started (by kernel_rfl) Try.func7
    (ChangeSpec.witness6 (enc := enc) (C := Try.checked) false ⟨#[], #[.agg #[.int .i64 0, .int .i64 0, .int .i64 0, .int .i64 0], .agg #[.int .i64 0, .int .i64 0, .int .i64 0, .int .i64 0, .bool false]], []⟩ 8 (by kernel_rfl) (by kernel_rfl) (by kernel_rfl) (by kernel_rfl)) ?_
  intro W base args ds gs before hval0 hW hcnd hsz0 _
  have hsz : (DataW.weightsEach Try.prog (Try.f7.params.toList ++ Rows.nodeStepsSpec.plain.varTypes Try.prog) (ds ++ gs)).all (· ≤ reachBytes) = true := hsz0
  have hval : ∀ (j : Nat) t v, Try.f7.params[j]? = some t → args[j]? = some v → Value.okWide Try.prog W .any base t v := hval0
  have hW' := hW
  obtain ⟨p, q, hA0, hV, rfl, hfz, hnd⟩ := hW
  have hA : DataW.TrodAll enc Try.prog W 0 (fun _ => true) true Try.f7.params.toList args.toList ds p := hA0
  rw [Try.params7] at hA hval hsz
  obtain ⟨v0, vs0, d0, ds0, p0, q0, hargs, rfl, rfl, h0, r0⟩ := trodAll_cons hA
  obtain ⟨v1, vs1, d1, ds1, p1, q1, rfl, rfl, rfl, h1, r1⟩ := trodAll_cons r0
  obtain ⟨rfl, rfl, rfl⟩ := trodAll_nil r1
  obtain rfl : args = #[v0, v1] := by cases args; simp_all
  obtain ⟨rfl, rfl⟩ := trodVars_none hV
  have k0 := h0
  obtain ⟨cs0, n0, rfl, hl0, hf0⟩ := Open.open_agg Try.underlying26 (by kernel_rfl) (by kernel_rfl) (hval 0 26 v0 rfl rfl) h0
  obtain ⟨c0_0, r0_0, rfl, hl0_0⟩ := Open.list_cons hl0
  obtain ⟨c0_1, r0_1, rfl, hl0_1⟩ := Open.list_cons hl0_0
  obtain ⟨c0_2, r0_2, rfl, hl0_2⟩ := Open.list_cons hl0_1
  obtain ⟨c0_3, r0_3, rfl, hl0_3⟩ := Open.list_cons hl0_2
  obtain rfl := List.eq_nil_of_length_eq_zero hl0_3
  obtain ⟨u0_0, y0_0, hu0_0, ht0_0, hb0_0⟩ := hf0 0 _ rfl
  obtain rfl : c0_0 = u0_0 := by simpa using hu0_0
  obtain ⟨a0_0, e0_0, rfl, w0_0⟩ := DataW.trod_int Try.underlying3 ht0_0
  obtain rfl : c0_0 = _ := by simpa using e0_0
  obtain ⟨u0_1, y0_1, hu0_1, ht0_1, hb0_1⟩ := hf0 1 _ rfl
  obtain rfl : c0_1 = u0_1 := by simpa using hu0_1
  obtain ⟨a0_1, e0_1, rfl, w0_1⟩ := DataW.trod_int Try.underlying3 ht0_1
  obtain rfl : c0_1 = _ := by simpa using e0_1
  obtain ⟨u0_2, y0_2, hu0_2, ht0_2, hb0_2⟩ := hf0 2 _ rfl
  obtain rfl : c0_2 = u0_2 := by simpa using hu0_2
  obtain ⟨a0_2, e0_2, rfl, w0_2⟩ := DataW.trod_int Try.underlying2 ht0_2
  obtain rfl : c0_2 = _ := by simpa using e0_2
  obtain ⟨u0_3, y0_3, hu0_3, ht0_3, hb0_3⟩ := hf0 3 _ rfl
  obtain rfl : c0_3 = u0_3 := by simpa using hu0_3
  obtain ⟨a0_3, e0_3, rfl, w0_3⟩ := DataW.trod_int Try.underlying2 ht0_3
  obtain rfl : c0_3 = _ := by simpa using e0_3
  clear hf0
  have k1 := h1
  obtain ⟨cs1, n1, rfl, hl1, hf1⟩ := Open.open_agg Try.underlying28 (by kernel_rfl) (by kernel_rfl) (hval 1 28 v1 rfl rfl) h1
  obtain ⟨c1_0, r1_0, rfl, hl1_0⟩ := Open.list_cons hl1
  obtain ⟨c1_1, r1_1, rfl, hl1_1⟩ := Open.list_cons hl1_0
  obtain ⟨c1_2, r1_2, rfl, hl1_2⟩ := Open.list_cons hl1_1
  obtain ⟨c1_3, r1_3, rfl, hl1_3⟩ := Open.list_cons hl1_2
  obtain ⟨c1_4, r1_4, rfl, hl1_4⟩ := Open.list_cons hl1_3
  obtain rfl := List.eq_nil_of_length_eq_zero hl1_4
  obtain ⟨u1_0, y1_0, hu1_0, ht1_0, hb1_0⟩ := hf1 0 _ rfl
  obtain rfl : c1_0 = u1_0 := by simpa using hu1_0
  obtain ⟨a1_0, e1_0, rfl, w1_0⟩ := DataW.trod_int Try.underlying2 ht1_0
  obtain rfl : c1_0 = _ := by simpa using e1_0
  obtain ⟨u1_1, y1_1, hu1_1, ht1_1, hb1_1⟩ := hf1 1 _ rfl
  obtain rfl : c1_1 = u1_1 := by simpa using hu1_1
  obtain ⟨a1_1, e1_1, rfl, w1_1⟩ := DataW.trod_int Try.underlying2 ht1_1
  obtain rfl : c1_1 = _ := by simpa using e1_1
  obtain ⟨u1_2, y1_2, hu1_2, ht1_2, hb1_2⟩ := hf1 2 _ rfl
  obtain rfl : c1_2 = u1_2 := by simpa using hu1_2
  obtain ⟨a1_2, e1_2, rfl, w1_2⟩ := DataW.trod_int Try.underlying3 ht1_2
  obtain rfl : c1_2 = _ := by simpa using e1_2
  obtain ⟨u1_3, y1_3, hu1_3, ht1_3, hb1_3⟩ := hf1 3 _ rfl
  obtain rfl : c1_3 = u1_3 := by simpa using hu1_3
  obtain ⟨a1_3, e1_3, rfl, w1_3⟩ := DataW.trod_int Try.underlying3 ht1_3
  obtain rfl : c1_3 = _ := by simpa using e1_3
  obtain ⟨u1_4, y1_4, hu1_4, ht1_4, hb1_4⟩ := hf1 4 _ rfl
  obtain rfl : c1_4 = u1_4 := by simpa using hu1_4
  obtain ⟨a1_4, e1_4, rfl⟩ := DataW.trod_bool Try.underlying4 ht1_4
  obtain rfl : c1_4 = _ := by simpa using e1_4
  clear hf1
  clear hA0 hval0 hsz0
  obtain ⟨k, h⟩ := Pure.NodeSteps a0_0 a0_1 a0_2 a0_3 a1_0 a1_1 a1_2 a1_3 a1_4 w0_0 w0_1 w0_2 w0_3 w1_0 w1_1 w1_2 w1_3
  refine (PNodeSteps.precinctlaw14_NodeSteps.calls k a0_0 a0_1 a0_2 a0_3 a1_0 a1_1 a1_2 a1_3 a1_4 true W  ⟨rfl⟩ h).mono fun e W' ⟨he, bel0⟩ => ?_
  have bel : Below W.heap.size W W' := bel0
  subst he
  exact ⟨_, rfl, _, _, _, [], _, [], hW', trodAll_mk1 (shut_bool Try.underlying4 _), (trodAll_cons_mk (Below.trod laidOut (by kernel_rfl) (of_decide_eq_true (by kernel_rfl)) k0 bel (Open.trod_lt' k0)) (trodAll_cons_mk (Below.trod laidOut (by kernel_rfl) (of_decide_eq_true (by kernel_rfl)) k1 bel (Open.trod_lt' k1)) trodAll_mk0)), rfl, bel.frame _, fun h => by cases h⟩
theorem over : Rows.nodeStepsRow.holds Try.pinned (OpenSpec.ofChange Rows.nodeStepsSpec) :=
  OpenClaim.holds_of_wide 7 Try.f7 rfl rfl rfl rfl rfl rfl rfl ⟨rfl, rfl, rfl, rfl, rfl⟩ rfl rfl rfl rfl rfl (by kernel_rfl) Try.func7 (by kernel_rfl)
    (of_decide_eq_true (by kernel_rfl)) (by unfold Func.isWrapper; first | (rw [if_pos (by decide +kernel)]; kernel_rfl) | (rw [if_neg (by decide +kernel)]; exact ⟨rfl, rfl⟩))
    (fun os started H enc _ => lifted os started H enc)
theorem proved : Rows.NodeStepsSaid := over
#print axioms proved
end Go.Proofs.Ytelhajoedlaohaa.nodeSteps
namespace Go.Proofs.Ytelhajoedlaohaa
/-- The row, under a short name, for the claim. -/
theorem nodeSteps_holds : Rows.NodeStepsSaid := nodeSteps.proved
end Go.Proofs.Ytelhajoedlaohaa
