/-
  The digest of "abc".
-/
import Derived.Test.YtelhajoedlaohaaDoorShaRefW
namespace Go.Proofs.YtelhajoedlaohaaDoor.Sha
set_option linter.unusedVariables false
set_option linter.unusedSimpArgs false
open Go Go.RowKit Go.Proofs.YtelhajoedlaohaaDoor.Plain Go.Proofs.YtelhajoedlaohaaDoorW.PrintWords
def abcB : List UInt8 := [186, 120, 22, 191, 143, 1, 207, 234, 65, 65, 64, 222, 93, 174, 34, 35, 176, 3, 97, 163, 150, 23, 122, 156, 180, 16, 255, 97, 242, 0, 21, 173]
set_option maxRecDepth 100000 in
theorem abc_sum : (sumK roots ⟨#[97, 98, 99]⟩).data.toList = abcB := by decide +kernel
end Go.Proofs.YtelhajoedlaohaaDoor.Sha
