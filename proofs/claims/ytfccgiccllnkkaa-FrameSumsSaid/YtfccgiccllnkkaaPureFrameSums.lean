/- Of every text: the program's check sum is the reference's; and the fixed example. No condition beyond the statement's own. -/
import Derived.Test.YtfccgiccllnkkaaSums
namespace Go.Proofs.Ytfccgiccllnkkaa.Pure
open Go Go.RowKit Go.Proofs.Ytfccgiccllnkkaa.Plain Go.Proofs.Ytfccgiccllnkkaa.Words Go.Proofs.Ytfccgiccllnkkaa.PX Go.Proofs.YtfccgiccllnkkaaW.PrintWords Go.Proofs.YtfccgiccllnkkaaW.PrintLast Go.Proofs.YtfccgiccllnkkaaW.PrintMore
theorem FrameSums : precinctlaw03_FrameSums.Pure := by
  intro s hs
  refine ⟨10 * s.size + 200, ?_⟩
  unfold precinctlaw03_FrameSums.f
  rw [sum_some (s := ⟨#[49, 50, 51, 52, 53, 54, 55, 56, 57]⟩) _ (by decide) (by show 10 * 9 + 1 ≤ _; omega), sum_some _ (by omega) (by omega), rsum_some _ (by omega) (by omega)]
  have e : sumR (⟨#[49, 50, 51, 52, 53, 54, 55, 56, 57]⟩ : ByteArray) = 3808858755 := by decide +kernel
  simp [e]
end Go.Proofs.Ytfccgiccllnkkaa.Pure
