/- Of every number and width: the program's Put and the reference's come to the same bytes; and the fixed example. No condition beyond the statement's own. -/
import Derived.Test.YtfccgiccllnkkaaWords
namespace Go.Proofs.Ytfccgiccllnkkaa.Pure
open Go Go.RowKit Go.Proofs.Ytfccgiccllnkkaa.Plain Go.Proofs.Ytfccgiccllnkkaa.Words Go.Proofs.Ytfccgiccllnkkaa.PX Go.Proofs.YtfccgiccllnkkaaW.PrintWords Go.Proofs.YtfccgiccllnkkaaW.PrintLast Go.Proofs.YtfccgiccllnkkaaW.PrintMore
theorem WordsPuts : precinctlaw01_WordsPuts.Pure := by
  intro w n hw hn
  have hn' := wf_u64 hn
  refine ⟨100, ?_⟩
  unfold precinctlaw01_WordsPuts.f
  rw [put_some 100 hn'.1 hn'.2 (by omega), rput_some 100 hn'.1 hn'.2 (by omega), put_some (w := 3) (n := 258) 100 (by omega) (by omega) (by omega)]
  have e : (put 3 258).toList = [0, 1, 2] := by rw [toList_data]; decide
  simp [e]
end Go.Proofs.Ytfccgiccllnkkaa.Pure
