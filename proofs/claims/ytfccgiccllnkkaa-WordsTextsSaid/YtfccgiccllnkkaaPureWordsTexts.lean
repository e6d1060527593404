/- Of every text: the program's Text is the reference's, and at every place of every text its GetText is; and the fixed example. No condition beyond the statement's own. -/
import Derived.Test.YtfccgiccllnkkaaTexts
namespace Go.Proofs.Ytfccgiccllnkkaa.Pure
open Go Go.RowKit Go.Proofs.Ytfccgiccllnkkaa.Plain Go.Proofs.Ytfccgiccllnkkaa.Words Go.Proofs.Ytfccgiccllnkkaa.PX Go.Proofs.YtfccgiccllnkkaaW.PrintWords Go.Proofs.YtfccgiccllnkkaaW.PrintLast Go.Proofs.YtfccgiccllnkkaaW.PrintMore
theorem WordsTexts : precinctlaw01_WordsTexts.Pure := by
  intro s t a hs ht ha
  have ha' := wf_i64 ha
  refine ⟨100, ?_⟩
  unfold precinctlaw01_WordsTexts.f
  rw [text_some 100 (by omega) (by omega), rtext_some 100 (by omega) (by omega), gtext_some 100 ha' (by omega) (by omega), rgtext_some 100 ha' (by omega) (by omega), text_some (s := ⟨#[120]⟩) 100 (by decide) (by omega)]
  have e : (textR ⟨#[120]⟩).1.toList = [0, 1, 120] := by rw [toList_data]; decide
  simp [e]
end Go.Proofs.Ytfccgiccllnkkaa.Pure
