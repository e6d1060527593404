/-
  What Text and GetText of package words, and their references, come to.
-/
import Derived.Test.YtfccgiccllnkkaaWords

namespace Go.Proofs.Ytfccgiccllnkkaa.Words
set_option linter.unusedVariables false
set_option linter.unusedSimpArgs false
open Go Go.RowKit Go.Proofs.Ytfccgiccllnkkaa.Plain Go.Proofs.Ytfccgiccllnkkaa.PY Go.Proofs.YtfccgiccllnkkaaW.PrintWords Go.Proofs.YtfccgiccllnkkaaW.PrintLast Go.Proofs.YtfccgiccllnkkaaW.PrintMore
/-- what Text answers -/
def textR (s : ByteArray) : ByteArray × Int := if (s.size : Int) > 65535 then (⟨#[]⟩, 5) else (put 2 s.size ++ s, 0)
/-- what GetText answers -/
def gtextR (s : ByteArray) (a : Int) : ByteArray × Int × Int :=
  if (getR s a 2).2.2 = 0 then (if (s.size : Int) - (getR s a 2).2.1 < (getR s a 2).1 then (⟨#[]⟩, 0, 3)
    else (s.extract (getR s a 2).2.1.toNat ((getR s a 2).2.1 + (getR s a 2).1).toNat, (getR s a 2).2.1 + (getR s a 2).1, 0))
  else (⟨#[]⟩, 0, (getR s a 2).2.2)
theorem getR2 (s : ByteArray) (a : Int) : (getR s a 2).2.2 = 0 → 0 ≤ a ∧ a + 2 ≤ s.size ∧ getR s a 2 = (gets s a 2, a + 2, 0) ∧ 0 ≤ gets s a 2 ∧ gets s a 2 < 65536 := by
  unfold getR
  by_cases h : (2 : Int) < 1 ∨ (2 : Int) > 8 ∨ a < 0 ∨ a > s.size
  · rw [if_pos h]; intro h; simp at h
  · rw [if_neg h]
    by_cases g : (s.size : Int) - a < 2
    · rw [if_pos g]; intro h; simp at h
    · rw [if_neg g]; intro _
      have := gets_lt s a 2
      exact ⟨by omega, by omega, rfl, this.1, by have := this.2; simpa using this⟩
end Go.Proofs.Ytfccgiccllnkkaa.Words
