/- Of every number, place and count: the program's Bits and the reference's come to one number; and the fixed example. No condition beyond the statement's own. -/
import Derived.Test.YtfccgiccllnkkaaBits
namespace Go.Proofs.Ytfccgiccllnkkaa.Pure
open Go Go.RowKit Go.Proofs.Ytfccgiccllnkkaa.Plain Go.Proofs.Ytfccgiccllnkkaa.Words Go.Proofs.Ytfccgiccllnkkaa.PX Go.Proofs.YtfccgiccllnkkaaW.PrintWords Go.Proofs.YtfccgiccllnkkaaW.PrintLast Go.Proofs.YtfccgiccllnkkaaW.PrintMore
theorem WordsBits : precinctlaw01_WordsBits.Pure := by
  intro n f c hn hf hc
  have hn' := wf_u64 hn
  have hf' := wf_i64 hf
  refine ⟨200, ?_⟩
  unfold precinctlaw01_WordsBits.f
  rw [bits_some 200 hn' hf' (by omega), rbits_some 200 hn' (by omega), bits_some (n := 180) (f := 2) (c := 3) 200 (by omega) (by omega) (by omega)]
  have e : bitsR 180 2 3 = 5 := by decide
  simp [e]
end Go.Proofs.Ytfccgiccllnkkaa.Pure
