/- Of every number: the program's Fold and Unfold are the reference's, and each undoes the other. No condition beyond the statement's own. -/
import Derived.Test.YtfccgiccllnkkaaWords
namespace Go.Proofs.Ytfccgiccllnkkaa.Pure
open Go Go.RowKit Go.Proofs.Ytfccgiccllnkkaa.Plain Go.Proofs.Ytfccgiccllnkkaa.Words Go.Proofs.Ytfccgiccllnkkaa.PX Go.Proofs.YtfccgiccllnkkaaW.PrintWords Go.Proofs.YtfccgiccllnkkaaW.PrintLast Go.Proofs.YtfccgiccllnkkaaW.PrintMore
theorem fold_some {n : Int} (h0 : -9223372036854775808 ≤ n) (h1 : n ≤ 9223372036854775807) : words_Fold.f n = some (if 0 ≤ n then 2 * n else -2 * n - 1) := by
  unfold words_Fold.f
  rw [wu64, wu64]
  by_cases h : 0 ≤ n
  · rw [if_pos h, show n / 9223372036854775808 % 18446744073709551616 = 0 by omega, xor64_zero _ (by omega) (by omega)]
    unfold wrap64; congr 1; omega
  · rw [if_neg h, show n / 9223372036854775808 % 18446744073709551616 = 18446744073709551615 by omega, xor64_ones _ (by omega) (by omega)]
    unfold wrap64; congr 1; omega
theorem rfold_some {n : Int} (h0 : -9223372036854775808 ≤ n) (h1 : n ≤ 9223372036854775807) : precinctref01_Fold.f n = some (if 0 ≤ n then 2 * n else -2 * n - 1) := by
  unfold precinctref01_Fold.f
  simp only [wu64]
  by_cases h : 0 ≤ n
  · rw [if_pos h, if_pos h]; congr 1; omega
  · rw [if_neg h, if_neg h]; unfold wrap64; congr 1; omega
theorem unfold_some {m : Int} (h0 : 0 ≤ m) (h1 : m < 18446744073709551616) : words_Unfold.f m = some (if m % 2 = 0 then m / 2 else -(m / 2) - 1) := by
  unfold words_Unfold.f
  rw [and_one _ h0 h1, w64 (n := m / 2) (by omega) (by omega), w64 (n := m % 2) (by omega) (by omega), w64 (n := -(m % 2)) (by omega) (by omega)]
  by_cases h : m % 2 = 0
  · rw [if_pos h, h, show (-0 : Int) = 0 by rfl, xori_zero _ (by omega) (by omega)]
  · rw [if_neg h, show m % 2 = 1 by omega, xori_neg _ (by omega) (by omega)]
theorem runfold_some {m : Int} (h0 : 0 ≤ m) (h1 : m < 18446744073709551616) : precinctref01_Unfold.f m = some (if m % 2 = 0 then m / 2 else -(m / 2) - 1) := by
  unfold precinctref01_Unfold.f
  simp only [wu64, td2 h0, tm2 h0]
  by_cases h : m % 2 = 0
  · rw [if_pos h, if_neg (by omega)]; unfold wrap64; congr 1; omega
  · rw [if_neg h, if_pos (by omega)]; unfold wrap64; congr 1; omega
theorem WordsFolds : precinctlaw01_WordsFolds.Pure := by
  intro n m hn hm
  have hn' := wf_i64 hn
  have hm' := wf_u64 hm
  unfold precinctlaw01_WordsFolds.f
  have hu : (if 0 ≤ (if m % 2 = 0 then m / 2 else -(m / 2) - 1) then 2 * (if m % 2 = 0 then m / 2 else -(m / 2) - 1) else -2 * (if m % 2 = 0 then m / 2 else -(m / 2) - 1) - 1) = m := by
    by_cases h : m % 2 = 0
    · simp only [if_pos h]; rw [if_pos (by omega)]; omega
    · simp only [if_neg h]; rw [if_neg (by omega)]; omega
  have hf : (if (if 0 ≤ n then 2 * n else -2 * n - 1) % 2 = 0 then (if 0 ≤ n then 2 * n else -2 * n - 1) / 2 else -((if 0 ≤ n then 2 * n else -2 * n - 1) / 2) - 1) = n := by
    by_cases h : 0 ≤ n
    · simp only [if_pos h]; rw [if_pos (by omega)]; omega
    · simp only [if_neg h]; rw [if_neg (by omega)]; omega
  rw [fold_some (n := -2) (by omega) (by omega), fold_some hn'.1 hn'.2, rfold_some hn'.1 hn'.2, unfold_some hm'.1 hm'.2, runfold_some hm'.1 hm'.2]
  simp only [Option.bind_some]
  rw [unfold_some (by split <;> omega) (by split <;> omega), fold_some (by split <;> omega) (by split <;> omega)]
  simp only [Option.bind_some]
  rw [hu, hf]
  simp
end Go.Proofs.Ytfccgiccllnkkaa.Pure
