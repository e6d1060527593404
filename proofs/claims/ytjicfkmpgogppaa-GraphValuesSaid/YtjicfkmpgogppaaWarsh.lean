/-
  Ways over a relation: the closure by rows (P), and the set that grows by passes.
-/
import Derived.Test.YtjicfkmpgogppaaPlain
namespace Go.Proofs.Ytjicfkmpgogppaa.Gr
set_option linter.unusedVariables false
set_option linter.unusedSimpArgs false
section
variable {w : Nat → Nat → Bool}
/-- a way from i to j over nodes below k -/
def P (w : Nat → Nat → Bool) : Nat → Nat → Nat → Bool
  | 0, i, j => w i j
  | k + 1, i, j => P w k i j || (P w k i k && P w k k j)
theorem P_succ (k i j : Nat) : P w (k + 1) i j = (P w k i j || (P w k i k && P w k k j)) := rfl
theorem P_row (k j : Nat) : P w (k + 1) k j = P w k k j := by
  rw [P_succ]
  cases P w k k j <;> simp
/-- a way whose inner nodes are below n -/
inductive Tr (w : Nat → Nat → Bool) (n : Nat) : Nat → Nat → Prop
  | one {i j : Nat} : w i j = true → Tr w n i j
  | cons {i j l : Nat} : w i j = true → j < n → Tr w n j l → Tr w n i l
theorem Tr.trans {n i j l : Nat} (h : Tr w n i j) (hj : j < n) (k : Tr w n j l) : Tr w n i l := by
  induction h with
  | one a => exact .cons a hj k
  | cons a b _ ih => exact .cons a b (ih hj k)
/-- a set of nodes that can be gone to no further -/
def Shut (w : Nat → Nat → Bool) (n i : Nat) (r : List Bool) : Prop := ∀ a b, a < n → b < n → w a b = true → r.getD b false = true → r.getD a false = true ∧ a ≠ i
/-- the set holds only nodes with a way to i -/
def Good (w : Nat → Nat → Bool) (n i : Nat) (r : List Bool) : Prop := r.length = n ∧ r.getD i false = true ∧ ∀ a, a < n → r.getD a false = true → a = i ∨ Tr w n a i
def Sub (r s : List Bool) : Prop := ∀ a, r.getD a false = true → s.getD a false = true
def cnt (r : List Bool) : Nat := r.countP id
/-- what a pass makes of a set -/
structure Pass (w : Nat → Nat → Bool) (n i : Nat) (r s : List Bool) : Prop where
  good : Good w n i s
  sub : Sub r s
  all : ∀ a b, a < n → b < n → w a b = true → r.getD b false = true → s.getD a false = true ∧ a ≠ i
/-- after m passes: the sets were shut, or have grown -/
def Grown (w : Nat → Nat → Bool) (n i m : Nat) (r : List Bool) : Prop := (∃ s, Shut w n i s ∧ s.getD i false = true) ∨ m + 1 ≤ cnt r
end
end Go.Proofs.Ytjicfkmpgogppaa.Gr
