/-
  The document's values as workflows: plain.
-/
import Derived.Test.YtjicfkmpgogppaaValsA
namespace Go.Proofs.Ytjicfkmpgogppaa.Rw
set_option linter.unusedVariables false
set_option linter.unusedSimpArgs false
open Go Go.RowKit Go.Proofs.Ytjicfkmpgogppaa.Plain Go.Proofs.Ytjicfkmpgogppaa.Vs Go.Proofs.Ytjicfkmpgogppaa.PG Go.Proofs.YtjicfkmpgogppaaW.PrintWords Go.Proofs.YtjicfkmpgogppaaW.PrintLast Go.Proofs.YtjicfkmpgogppaaW.PrintMore
abbrev B_ := S125
abbrev E0 : ByteArray := ⟨#[]⟩
def inr (n : Int) : Bool := decide (-2147483648 ≤ n ∧ n ≤ 2147483647)
def shapedW (k : Int) (l : List W) (ks : List Int) : Bool := decide (k = 2 ∧ l.map (·.f0) = ks)
def textsW (l : List W) : Bool := l.all fun d => d.f0 == 1
abbrev atW (v : W) (i : Nat) : W := v.f3.getD i z57
/-- the node that a value is -/
def nodeRW (v : W) : Option B_ := if shapedW v.f0 v.f3 [1, 2, 0, 0, 0, 1] = true then (if inr (atW v 2).f1 = true ∧ inr (atW v 4).f1 = true then (if textsW (atW v 1).f3 = true then some ⟨(atW v 0).f2, (atW v 1).f3.map (·.f2), (atW v 2).f1, (atW v 3).f1, (atW v 4).f1, (atW v 5).f2⟩ else none) else none) else none
def nodesRW : List W → Option (List B_)
  | [] => some []
  | v :: l => match nodeRW v with
    | none => none
    | some x => match nodesRW l with
      | none => none
      | some r => some (x :: r)
def flowRW (v : W) : ByteArray × List B_ × Int := if shapedW v.f0 v.f3 [1, 2] = true then (match nodesRW (atW v 1).f3 with
    | some r => ((atW v 0).f2, r, 0)
    | none => (E0, [], 4)) else (E0, [], 4)
def limB (v : W) : Bool := decide (v.f3.length ≤ 1000000) && v.f3.all fun x => decide (x.f3.length ≤ 1000000) && x.f3.all fun y => decide (y.f3.length ≤ 1000000) && y.f3.all fun z => decide (z.f3.length ≤ 1000000)
theorem limB_iff (v : W) : limB v = true ↔ v.f3.length ≤ 1000000 ∧ ∀ x ∈ v.f3, x.f3.length ≤ 1000000 ∧ ∀ y ∈ x.f3, y.f3.length ≤ 1000000 ∧ ∀ z ∈ y.f3, z.f3.length ≤ 1000000 := by
  unfold limB
  simp only [Bool.and_eq_true, List.all_eq_true, decide_eq_true_iff]
theorem six {l : List W} (h : l.length = 6) : ∃ v0 v1 v2 v3 v4 v5, l = [v0, v1, v2, v3, v4, v5] := by
  match l, h with
  | [v0, v1, v2, v3, v4, v5], _ => exact ⟨v0, v1, v2, v3, v4, v5, rfl⟩
theorem two {l : List W} (h : l.length = 2) : ∃ v0 v1, l = [v0, v1] := by
  match l, h with
  | [v0, v1], _ => exact ⟨v0, v1, rfl⟩
/-- node by node: the first i of them are nodes -/
theorem nodesRW_append : ∀ (l m : List W), nodesRW (l ++ m) = match nodesRW l with
    | none => none
    | some r => match nodesRW m with
      | none => none
      | some s => some (r ++ s)
  | [], m => by
    rw [List.nil_append, nodesRW]
    cases nodesRW m <;> rfl
  | x :: l, m => by
    rw [List.cons_append, nodesRW, nodesRW, nodesRW_append l m]
    cases nodeRW x with
    | none => rfl
    | some y =>
      cases nodesRW l with
      | none => rfl
      | some r =>
        cases nodesRW m with
        | none => rfl
        | some s => rfl
theorem nodesRW_bad {l : List W} {i : Nat} (hi : i < l.length) (h : nodeRW l[i] = none) : nodesRW l = none := by
  have e : l = l.take i ++ l[i] :: l.drop (i + 1) := by rw [← List.drop_eq_getElem_cons hi, List.take_append_drop]
  rw [e, nodesRW_append, nodesRW, h]
  cases nodesRW (l.take i) <;> rfl
theorem nodesRW_snoc {l : List W} {i : Nat} (hi : i < l.length) {r : List B_} {x : B_} (hr : nodesRW (l.take i) = some r) (h : nodeRW l[i] = some x) : nodesRW (l.take (i + 1)) = some (r ++ [x]) := by
  rw [List.take_succ_eq_append_getElem hi, nodesRW_append, hr, nodesRW, h]
  rfl
end Go.Proofs.Ytjicfkmpgogppaa.Rw
