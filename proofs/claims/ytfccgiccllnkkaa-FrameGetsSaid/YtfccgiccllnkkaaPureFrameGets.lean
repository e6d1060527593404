/- Of every text and place: the program's frame there is the reference's, or its error; and the fixed example. No condition beyond the statement's own. -/
import Derived.Test.YtfccgiccllnkkaaFrames
namespace Go.Proofs.Ytfccgiccllnkkaa.Pure
open Go Go.RowKit Go.Proofs.Ytfccgiccllnkkaa.Plain Go.Proofs.Ytfccgiccllnkkaa.Words Go.Proofs.Ytfccgiccllnkkaa.PX Go.Proofs.YtfccgiccllnkkaaW.PrintWords Go.Proofs.YtfccgiccllnkkaaW.PrintLast Go.Proofs.YtfccgiccllnkkaaW.PrintMore
theorem FrameGets : precinctlaw03_FrameGets.Pure := by
  intro s a hs ha
  have ha' := wf_i64 ha
  refine ⟨50000, ?_⟩
  unfold precinctlaw03_FrameGets.f
  rw [fget_some _ ha' (by omega) (by omega), rfget_some _ ha' (by omega) (by omega), fwakes_some _ (by omega)]
  simp
end Go.Proofs.Ytfccgiccllnkkaa.Pure
