/-
  What the builder builds is small: without what speaks of bytes.
-/
import Derived.Test.YtjicfkmpgogppaaBuildA
namespace Go.Proofs.Ytjicfkmpgogppaa.Bs
set_option linter.unusedVariables false
set_option linter.unusedSimpArgs false
open Go Go.RowKit Go.Proofs.Ytjicfkmpgogppaa.Plain Go.Proofs.Ytjicfkmpgogppaa.Bu Go.Proofs.Ytjicfkmpgogppaa.PG Go.Proofs.YtjicfkmpgogppaaW.PrintWords Go.Proofs.YtjicfkmpgogppaaW.PrintLast Go.Proofs.YtjicfkmpgogppaaW.PrintMore
theorem kids_all {P : V → Prop} (n : Nat) (f : Nat → V × Nat) (count deep : Int) (hf : ∀ b, P (f b).1) : ∀ (j : Nat) (i : Int) (a : Nat), ∀ x ∈ (kids n f count deep j i a).1, P x
  | 0, _, _, x, h => by cases h
  | j + 1, i, a, x, h => by
    simp only [kids] at h
    split at h
    · rcases List.mem_cons.mp h with rfl | h
      · exact hf a
      · exact kids_all n f count deep hf j (i + 1) _ x h
    · cases h
theorem kids_len (n : Nat) (f : Nat → V × Nat) (count deep : Int) : ∀ (j : Nat) (i : Int) (a : Nat), (kids n f count deep j i a).1.length ≤ j
  | 0, _, _ => Nat.le_refl _
  | j + 1, i, a => by
    simp only [kids]
    split
    · have := kids_len n f count deep j (i + 1) (f a).2
      simp only [List.length_cons]; omega
    · exact Nat.zero_le _
theorem small_none : Vs.Small noV := by rw [Vs.Small_eq]; simp
theorem next_small (l : List I) : ∀ (m : Nat) (deep : Int) (a : Nat), Vs.Small (nextV l m deep a).1
  | 0, _, _ => small_none
  | m + 1, deep, a => by
    simp only [nextV]
    split
    · exact small_none
    · rw [Vs.Small_eq]
      exact ⟨by have := kids_len l.length (fun b => nextV l m (deep + 1) b) (l.getD a z137).f3 deep 400 0 (a + 1); show (kids _ _ _ _ _ _ _).1.length ≤ 1000; omega, kids_all l.length _ _ deep (fun b => next_small l m (deep + 1) b) 400 0 (a + 1)⟩
theorem built_small (l : List I) : Vs.Small (built l) := next_small l 13 0 0
end Go.Proofs.Ytjicfkmpgogppaa.Bs
