/-
  What was read as a workflow is small.
-/
import Derived.Test.YtjicfkmpgogppaaGvP
namespace Go.Proofs.Ytjicfkmpgogppaa.Gv
set_option linter.unusedVariables false
set_option linter.unusedSimpArgs false
open Go Go.RowKit Go.Proofs.Ytjicfkmpgogppaa.Plain Go.Proofs.Ytjicfkmpgogppaa.Gr Go.Proofs.Ytjicfkmpgogppaa.Vs Go.Proofs.Ytjicfkmpgogppaa.PG Go.Proofs.YtjicfkmpgogppaaW.PrintWords Go.Proofs.YtjicfkmpgogppaaW.PrintLast Go.Proofs.YtjicfkmpgogppaaW.PrintMore
theorem six {l : List V} (h : l.length = 6) : ∃ v0 v1 v2 v3 v4 v5, l = [v0, v1, v2, v3, v4, v5] := by
  match l, h with
  | [v0, v1, v2, v3, v4, v5], _ => exact ⟨v0, v1, v2, v3, v4, v5, rfl⟩
theorem two {l : List V} (h : l.length = 2) : ∃ v0 v1, l = [v0, v1] := by
  match l, h with
  | [v0, v1], _ => exact ⟨v0, v1, rfl⟩
theorem nodeR_lim {v : V} (hv : Small v) {x : A_} (h : nodeR v = some x) : x.f1.length ≤ 1000 := by
  obtain ⟨a, b, c, l⟩ := v
  unfold nodeR at h
  split at h
  · rename_i hs
    obtain ⟨ha, hl⟩ := of_decide_eq_true hs
    split at h
    · split at h
      · have h := Option.some.inj h
        obtain ⟨v0, v1, v2, v3, v4, v5, rfl⟩ := six (by have := congrArg List.length hl; simpa using this)
        subst h
        show (v1.f3.map (·.f2)).length ≤ _
        rw [List.length_map]
        rw [Small_eq] at hv
        have := hv.2 v1 (by simp)
        rw [Small_eq] at this
        exact this.1
      · cases h
    · cases h
  · cases h
theorem nodesR_lim : ∀ (l : List V) (r : List A_), (∀ x ∈ l, Small x) → nodesR l = some r → r.length = l.length ∧ ∀ x ∈ r, x.f1.length ≤ 1000
  | [], r, _, h => by
    obtain rfl := Option.some.inj h
    exact ⟨rfl, fun x hx => by cases hx⟩
  | v :: l, r, hv, h => by
    rw [nodesR] at h
    cases c : nodeR v with
    | none => rw [c] at h; cases h
    | some x =>
      rw [c] at h
      cases d : nodesR l with
      | none => rw [d] at h; cases h
      | some s =>
        rw [d] at h
        obtain rfl := Option.some.inj h
        obtain ⟨h1, h2⟩ := nodesR_lim l s (fun y hy => hv y (by simp [hy])) d
        refine ⟨by simp only [List.length_cons, h1], fun y hy => ?_⟩
        rcases List.mem_cons.1 hy with rfl | hy
        · exact nodeR_lim (hv v (by simp)) c
        · exact h2 y hy
end Go.Proofs.Ytjicfkmpgogppaa.Gv
