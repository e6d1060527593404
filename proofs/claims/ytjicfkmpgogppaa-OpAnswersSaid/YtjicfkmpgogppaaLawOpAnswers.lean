/- The row of the law OpAnswers: for every input the law returns true, and the input reads as it did: out of its plain statement (Pure.OpAnswers) and its walk. -/
import Derived.Test.YtjicfkmpgogppaaRows
import Derived.Test.YtjicfkmpgogppaaPOx17
import Derived.Test.YtjicfkmpgogppaaPureOpAnswers
import Derived.Test.YtjicfkmpgogppaaOpen
import Derived.Test.YtjicfkmpgogppaaOpenItem
import Derived.WalkKit
import Derived.ProofKit
import Derived.OpenShut
import Derived.ShutString
import Derived.ChangeOld
import Derived.Below
import Derived.Carry
import Derived.SizedLaws
import Derived.Deep.CondSized
import Derived.JoinedCond
namespace Go.Proofs.Ytjicfkmpgogppaa.opAnswers
open Go.ChangeShapes Go.WideShapes Go.ChangeAt Go.RowKit Go.Proofs.YtjicfkmpgogppaaW.PrintWords
open Go.ChangeMaps (open_string shut_string)
set_option linter.unusedVariables false
theorem own : ownKnob Try.prog.godebug = none := by kernel_rfl
theorem laidOut : laidOutB Try.prog = true := by kernel_rfl
set_option maxRecDepth 100000 in
theorem lifted (os : Os) (started : os.Started) (H : Type) (enc : TypeId × Value → H) :
    ReturnsInHanded {} Try.checked os 9 .any (Rows.opAnswersSpec.pre6 enc Try.prog Try.f9 Rows.opAnswersRow.domain false) (Rows.opAnswersSpec.post enc Try.prog Try.f9 false true false false) := by
  refine returnsInHanded_of_change_sized (C := Try.checked) own started (by kernel_rfl) Try.func9
    (ChangeSpec.witness6 (enc := enc) (C := Try.checked) false ⟨#[], #[.int .i64 0, .slice none 0 0], []⟩ 8 (by kernel_rfl) (by kernel_rfl) (by kernel_rfl) (by kernel_rfl)) ?_
  intro W base args ds gs before hval0 hW hcnd hsz0 _
  have hsz : (DataW.weightsEach Try.prog (Try.f9.params.toList ++ Rows.opAnswersSpec.plain.varTypes Try.prog) (ds ++ gs)).all (· ≤ reachBytes) = true := hsz0
  have hval : ∀ (j : Nat) t v, Try.f9.params[j]? = some t → args[j]? = some v → Value.okWide Try.prog W .any base t v := hval0
  have hW' := hW
  obtain ⟨p, q, hA0, hV, rfl, hfz, hnd⟩ := hW
  have hA : DataW.TrodAll enc Try.prog W 0 (fun _ => true) true Try.f9.params.toList args.toList ds p := hA0
  rw [Try.params9] at hA hval hsz
  obtain ⟨v0, vs0, d0, ds0, p0, q0, hargs, rfl, rfl, h0, r0⟩ := trodAll_cons hA
  obtain ⟨v1, vs1, d1, ds1, p1, q1, rfl, rfl, rfl, h1, r1⟩ := trodAll_cons r0
  obtain ⟨rfl, rfl, rfl⟩ := trodAll_nil r1
  obtain rfl : args = #[v0, v1] := by cases args; simp_all
  obtain ⟨rfl, rfl⟩ := trodVars_none hV
  have k0 := h0
  obtain ⟨a0, rfl, rfl, rfl, w0⟩ := open_int Try.underlying3 (hval 0 3 v0 rfl rfl) h0
  have k1 := h1
  obtain ⟨A1, l1, c1, rfl, hc1, hr1, hg1, hb1⟩ := Open.open_row (d := PO.k147) Try.underlying69 (Open.opens_slice Try.underlying69 (by kernel_rfl) Open.opens_item) (hval 1 69 v1 rfl rfl) h1
  clear hA0 hval0 hsz0
  obtain ⟨k, h⟩ := Pure.OpAnswers a0 l1 w0 hg1.2 hg1.1
  refine (PO.precinctlaw18_OpAnswers.calls k a0 A1 c1 l1 true W hr1 hc1 ⟨rfl⟩ h).mono fun e W' ⟨he, bel0⟩ => ?_
  have bel : Below W.heap.size W W' := bel0
  subst he
  exact ⟨_, rfl, _, _, _, [], _, [], hW', trodAll_mk1 (shut_bool Try.underlying4 _), (trodAll_cons_mk (Below.trod laidOut (by kernel_rfl) (of_decide_eq_true (by kernel_rfl)) k0 bel (Open.trod_lt' k0)) (trodAll_cons_mk (Below.trod laidOut (by kernel_rfl) (of_decide_eq_true (by kernel_rfl)) k1 bel (Open.trod_lt' k1)) trodAll_mk0)), rfl, bel.frame _, fun h => by cases h⟩
theorem over : Rows.opAnswersRow.holds Try.pinned (OpenSpec.ofChange Rows.opAnswersSpec) :=
  OpenClaim.holds_of_wide 9 Try.f9 rfl rfl rfl rfl rfl rfl rfl ⟨rfl, rfl, rfl, rfl, rfl⟩ rfl rfl rfl rfl rfl (by kernel_rfl) Try.func9 (by kernel_rfl)
    (of_decide_eq_true (by kernel_rfl)) (by unfold Func.isWrapper; first | (rw [if_pos (by decide +kernel)]; kernel_rfl) | (rw [if_neg (by decide +kernel)]; exact ⟨rfl, rfl⟩))
    (fun os started H enc _ => lifted os started H enc)
theorem proved : Rows.OpAnswersSaid := over
#print axioms proved
end Go.Proofs.Ytjicfkmpgogppaa.opAnswers
namespace Go.Proofs.Ytjicfkmpgogppaa
/-- The row, under a short name, for the claim. -/
theorem opAnswers_holds : Rows.OpAnswersSaid := opAnswers.proved
end Go.Proofs.Ytjicfkmpgogppaa
