/- Of every body: the program's frame is the reference's, or its error; and the fixed example. No condition beyond the statement's own. -/
import Derived.Test.YtfccgiccllnkkaaFrames
namespace Go.Proofs.Ytfccgiccllnkkaa.Pure
open Go Go.RowKit Go.Proofs.Ytfccgiccllnkkaa.Plain Go.Proofs.Ytfccgiccllnkkaa.Words Go.Proofs.Ytfccgiccllnkkaa.PX Go.Proofs.YtfccgiccllnkkaaW.PrintWords Go.Proofs.YtfccgiccllnkkaaW.PrintLast Go.Proofs.YtfccgiccllnkkaaW.PrintMore
theorem FramePuts : precinctlaw03_FramePuts.Pure := by
  intro s hs
  refine ⟨50000, ?_⟩
  unfold precinctlaw03_FramePuts.f
  rw [fput_some _ (by omega) (by omega), rfput_some _ (by omega) (by omega), fwakes_some _ (by omega)]
  simp
end Go.Proofs.Ytfccgiccllnkkaa.Pure
