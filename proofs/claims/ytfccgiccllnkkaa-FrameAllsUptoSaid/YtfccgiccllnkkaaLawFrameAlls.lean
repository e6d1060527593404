/- The row of the law FrameAlls: for every input that the row speaks of (bulk at most 1048576) the law returns true, and the input reads as it did: out of its plain statement (Pure.FrameAlls) and its walk. -/
import Derived.Test.YtfccgiccllnkkaaRows
import Derived.Test.YtfccgiccllnkkaaPXx7
import Derived.Test.YtfccgiccllnkkaaPureFrameAlls
import Derived.Test.YtfccgiccllnkkaaOpen
import Derived.WalkKit
import Derived.ProofKit
import Derived.OpenShut
import Derived.ShutString
import Derived.ChangeOld
import Derived.Below
import Derived.Carry
import Derived.SizedLaws
import Derived.Deep.CondSized
import Derived.JoinedCond
namespace Go.Proofs.Ytfccgiccllnkkaa.frameAlls
open Go.ChangeShapes Go.WideShapes Go.ChangeAt Go.RowKit Go.Proofs.YtfccgiccllnkkaaW.PrintWords
open Go.ChangeMaps (open_string shut_string)
set_option linter.unusedVariables false
theorem own : ownKnob Try.prog.godebug = none := by kernel_rfl
theorem laidOut : laidOutB Try.prog = true := by kernel_rfl
set_option maxRecDepth 100000 in
theorem lifted (os : Os) (started : os.Started) (H : Type) (enc : TypeId × Value → H) (F : Stop.Interp) :
    ReturnsInHanded {} Try.checked os 14 .any ((Rows.OpenSpec.upto Rows.frameAllsSpec).pre6 enc Try.prog Try.f14 Rows.frameAllsUptoRow.domain false) (((Rows.OpenSpec.upto Rows.frameAllsSpec).at F).post enc Try.prog Try.f14 false true false false) := by
  refine returnsInHanded_of_cond_sized (C := Try.checked) (s := Rows.OpenSpec.upto Rows.frameAllsSpec) (k := Rows.uptoSmall) rfl own started (by kernel_rfl) Try.func14
    (OpenSpec.witness (enc := enc) (C := Try.checked) (s := Rows.OpenSpec.upto Rows.frameAllsSpec) (k := Rows.uptoSmall) rfl false ⟨#[], #[.string ByteArray.empty], []⟩ 8 (by kernel_rfl) (by kernel_rfl) (by kernel_rfl)
      (x := ([.lit (.string [])], [], [])) (by kernel_rfl) rfl (by kernel_rfl)) ?_
  intro W base args ds gs before hval0 hW _ hk hsz0 _
  have hsz : (DataW.weightsEach Try.prog (Try.f14.params.toList ++ Rows.frameAllsSpec.plain.varTypes Try.prog) (ds ++ gs)).all (· ≤ reachBytes) = true := hsz0
  have hval : ∀ (j : Nat) t v, Try.f14.params[j]? = some t → args[j]? = some v → Value.okWide Try.prog W .any base t v := hval0
  have hW' := hW
  obtain ⟨p, q, hA0, hV, rfl, hfz, hnd⟩ := hW
  have hA : DataW.TrodAll enc Try.prog W 0 (fun _ => true) true Try.f14.params.toList args.toList ds p := hA0
  rw [Try.params14] at hA hval hsz
  obtain ⟨v0, vs0, d0, ds0, p0, q0, hargs, rfl, rfl, h0, r0⟩ := trodAll_cons hA
  obtain ⟨rfl, rfl, rfl⟩ := trodAll_nil r0
  obtain rfl : args = #[v0] := by cases args; simp_all
  obtain ⟨rfl, rfl⟩ := trodVars_none hV
  have hk' := of_decide_eq_true (show decide (Rows.uptoBulkAll ([d0] ++ ([] : List (DataW H))) ≤ 1048576) = true from hk)
  rw [List.append_nil] at hk'
  have BK0 : Rows.uptoBulk d0 ≤ 1048576 := by have z := Open.bulkAll_mem (d := d0) (l := [d0]) (by simp); omega
  have k0 := h0
  obtain ⟨a0, rfl, rfl, rfl, w0⟩ := open_string Try.underlying9 (hval 0 9 v0 rfl rfl) h0
  clear hA0 hval0 hsz0
  obtain ⟨k, h⟩ := Pure.FrameAlls a0 (by have z : a0.data.toList.length + 1 ≤ 1048576 := BK0; rw [Array.length_toList] at z; show a0.data.size ≤ _; omega)
  refine (PX.precinctlaw03_FrameAlls.calls k a0 true W  ⟨rfl⟩ h).mono fun e W' ⟨he, bel0⟩ => ?_
  have bel : Below W.heap.size W W' := bel0
  subst he
  exact ⟨_, rfl, _, _, _, [], _, [], hW', trodAll_mk1 (shut_bool Try.underlying4 _), (trodAll_cons_mk (Below.trod laidOut (by kernel_rfl) (of_decide_eq_true (by kernel_rfl)) k0 bel (Open.trod_lt' k0)) trodAll_mk0), rfl, bel.frame _, fun h => by cases h⟩
theorem over : Rows.frameAllsUptoRow.holds Try.pinned (Rows.OpenSpec.upto Rows.frameAllsSpec) :=
  OpenClaim.holds_of_cond 14 Try.f14 rfl rfl rfl rfl rfl rfl rfl ⟨rfl, rfl, rfl, rfl, rfl⟩ rfl rfl rfl rfl rfl (by kernel_rfl) Try.func14 (by kernel_rfl)
    (of_decide_eq_true (by kernel_rfl)) (by unfold Func.isWrapper; first | (rw [if_pos (by decide +kernel)]; kernel_rfl) | (rw [if_neg (by decide +kernel)]; exact ⟨rfl, rfl⟩))
    (fun os started H enc _ F => lifted os started H enc F)
theorem proved : Rows.FrameAllsUptoSaid := over
#print axioms proved
end Go.Proofs.Ytfccgiccllnkkaa.frameAlls
namespace Go.Proofs.Ytfccgiccllnkkaa
/-- The row, under a short name, for the claim. -/
theorem frameAlls_holds : Rows.FrameAllsUptoSaid := frameAlls.proved
end Go.Proofs.Ytfccgiccllnkkaa
