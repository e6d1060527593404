/- Of every text, place and width: the program's Get and the reference's come to one answer; and the fixed example. No condition beyond the statement's own. -/
import Derived.Test.YtfccgiccllnkkaaWords
namespace Go.Proofs.Ytfccgiccllnkkaa.Pure
open Go Go.RowKit Go.Proofs.Ytfccgiccllnkkaa.Plain Go.Proofs.Ytfccgiccllnkkaa.Words Go.Proofs.Ytfccgiccllnkkaa.PX Go.Proofs.YtfccgiccllnkkaaW.PrintWords Go.Proofs.YtfccgiccllnkkaaW.PrintLast Go.Proofs.YtfccgiccllnkkaaW.PrintMore
theorem WordsGets : precinctlaw01_WordsGets.Pure := by
  intro s a w hs ha hw
  have ha' := wf_i64 ha
  refine ⟨100, ?_⟩
  unfold precinctlaw01_WordsGets.f
  rw [get_some 100 ha' (by omega) (by omega), rget_some 100 ha' (by omega) (by omega), get_some (s := ⟨#[5]⟩) (a := 0) (w := 1) 100 (by omega) (by decide) (by omega)]
  have e : (getR (⟨#[5]⟩ : ByteArray) 0 1).1 = 5 := by decide
  simp [e]
end Go.Proofs.Ytfccgiccllnkkaa.Pure
