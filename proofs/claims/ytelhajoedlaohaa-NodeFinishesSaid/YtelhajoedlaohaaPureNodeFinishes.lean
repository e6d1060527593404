/- Of every state and ask: Finish, asked with either try, is the reference's; and the fixed example. No condition beyond the statement's own. -/
import Derived.Test.YtelhajoedlaohaaPNodeFinishesx3
import Derived.Test.YtelhajoedlaohaaPlain
namespace Go.Proofs.Ytelhajoedlaohaa.Pure
set_option linter.unusedVariables false
set_option linter.unusedSimpArgs false
open Go Go.RowKit Go.Proofs.Ytelhajoedlaohaa.Plain Go.Proofs.Ytelhajoedlaohaa.PNodeFinishes Go.Proofs.YtelhajoedlaohaaW.PrintWords Go.Proofs.YtelhajoedlaohaaW.PrintLast Go.Proofs.YtelhajoedlaohaaW.PrintMore
/-- what Finish answers -/
def finR (p t u a now try_ tries : Int) (ok : Bool) : Int × Int × Int × Int × Int :=
  if p = 2 ∧ t = try_ ∧ ¬ now > u then (if ok = true then (4, t, 0, now, 0) else if t < tries then (1, t, 0, now, 0) else (5, t, 0, now, 0)) else (0, 0, 0, 0, 36)
theorem fin_some (k : Nat) (p t u a now try_ tries : Int) (ok : Bool) : node_State_Finish.f (k + 1) p t u a now try_ tries ok = some (finR p t u a now try_ tries ok) := by
  unfold node_State_Finish.f finR
  simp only [node_State_Finish.j0, node_State_again.f, node_State_to.f]
  by_cases h2 : t = try_
  · subst h2
    by_cases h1 : p = 2 <;> by_cases h3 : now > u <;> cases ok <;> by_cases h4 : t < tries <;> simp [h1, h3, h4]
  · by_cases h1 : p = 2 <;> by_cases h3 : now > u <;> cases ok <;> by_cases h4 : t < tries <;> simp [h1, h2, h3, h4]
theorem rfin_some (k : Nat) (p t u a now try_ tries : Int) (ok : Bool) : precinctref14_Finish.f (k + 1) p t u a now try_ tries ok = some (finR p t u a now try_ tries ok) := by
  unfold precinctref14_Finish.f finR
  simp only [precinctref14_Finish.j0, precinctref14_again.f]
  by_cases h2 : t = try_
  · subst h2
    by_cases h1 : p = 2 <;> by_cases h3 : now > u <;> cases ok <;> by_cases h4 : t < tries <;> simp [h1, h3, h4]
  · by_cases h1 : p = 2 <;> by_cases h3 : now > u <;> cases ok <;> by_cases h4 : t < tries <;> simp [h1, h2, h3, h4]
theorem wakes_some : precinctlaw14_wakes.f 1 = some true := by decide +kernel
theorem is_same (p t u a : Int) : precinctlaw14_is.f p t u a p t u a = some true := by unfold precinctlaw14_is.f; simp
theorem NodeFinishes : ∀ (a0_0 : Int) (a0_1 : Int) (a0_2 : Int) (a0_3 : Int) (a1_0 : Int) (a1_1 : Int) (a1_2 : Int) (a1_3 : Int) (a1_4 : Bool), (Lit.int .i64 a0_0).wf = true → (Lit.int .i64 a0_1).wf = true → (Lit.int .i64 a0_2).wf = true → (Lit.int .i64 a0_3).wf = true → (Lit.int .i64 a1_0).wf = true → (Lit.int .i64 a1_1).wf = true → (Lit.int .i64 a1_2).wf = true → (Lit.int .i64 a1_3).wf = true → ∃ k, precinctlaw14_NodeFinishes.f k a0_0 a0_1 a0_2 a0_3 a1_0 a1_1 a1_2 a1_3 a1_4 = some true := by
  intro p t u a now lease try_ tries ok _ _ _ _ _ _ _ _
  refine ⟨4, ?_⟩
  unfold precinctlaw14_NodeFinishes.f
  simp only [Option.bind_some]
  have hw : ∀ k, precinctlaw14_wakes.f (k + 1) = some true := fun k => at_rounds precinctlaw14_wakes.mono (by omega) wakes_some
  have round : ∀ (xs : List Int) (k : Nat) (i : Int), 0 ≤ i → i < 2 → xs.length = 2 → precinctlaw14_NodeFinishes.l0 (k + 2) xs 2 i p t u a now lease try_ tries ok = precinctlaw14_NodeFinishes.l0 (k + 1) xs 2 (i + 1) p t u a now lease try_ tries ok := by
    intro xs k i h0 h1 hx
    rw [precinctlaw14_NodeFinishes.l0, if_pos h1, if_pos h0, if_pos (by omega), w64 (by omega) (by omega)]
    simp only [Option.bind_some, precinctlaw14_made.f, fin_some, rfin_some, is_same, if_true]
  have fin : ∀ (xs : List Int) (k : Nat), precinctlaw14_NodeFinishes.l0 (k + 2) xs 2 2 p t u a now lease try_ tries ok = some true := by
    intro xs k
    rw [precinctlaw14_NodeFinishes.l0, if_neg (by omega), hw]; rfl
  rw [show (([_, _] : List Int).length : Int) = 2 by rfl, round _ 2 0 (by omega) (by omega) rfl, round _ 1 _ (by omega) (by omega) rfl]
  exact fin _ 0
end Go.Proofs.Ytelhajoedlaohaa.Pure
