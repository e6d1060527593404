/- Of every state and ask: Expire, asked at either time, is the reference's; and the fixed example. No condition beyond the statement's own. -/
import Derived.Test.YtelhajoedlaohaaPNodeExpiresx2
import Derived.Test.YtelhajoedlaohaaPlain
namespace Go.Proofs.Ytelhajoedlaohaa.Pure
open Go Go.RowKit Go.Proofs.Ytelhajoedlaohaa.Plain Go.Proofs.Ytelhajoedlaohaa.PNodeExpires Go.Proofs.YtelhajoedlaohaaW.PrintWords Go.Proofs.YtelhajoedlaohaaW.PrintLast Go.Proofs.YtelhajoedlaohaaW.PrintMore
/-- what Expire answers -/
def expR (p t u a now tries : Int) : Int × Int × Int × Int × Bool :=
  if now > u then (if p = 2 then (if t < tries then (1, t, 0, now, true) else (5, t, 0, now, true)) else if p = 3 then (5, t, 0, now, true) else (p, t, u, a, false)) else (p, t, u, a, false)
theorem exp_some (k : Nat) (p t u a now tries : Int) : node_State_Expire.f (k + 1) p t u a now tries = some (expR p t u a now tries) := by
  unfold node_State_Expire.f expR
  simp only [node_State_Expire.j0, node_State_again.f, node_State_to.f]
  by_cases h1 : p = 2 <;> by_cases h3 : now > u <;> by_cases h4 : t < tries <;> by_cases h5 : p = 3 <;> simp [h1, h3, h4, h5] <;> omega
theorem rexp_some (p t u a now tries : Int) : precinctref14_Expire.f p t u a now tries = some (expR p t u a now tries) := by
  unfold precinctref14_Expire.f expR
  simp only [precinctref14_again.f]
  by_cases h1 : p = 2 <;> by_cases h3 : now > u <;> by_cases h4 : t < tries <;> by_cases h5 : p = 3 <;> simp [h1, h3, h4, h5] <;> omega
theorem wakes_some : precinctlaw14_wakes.f 1 = some true := by decide +kernel
theorem is_same (p t u a : Int) : precinctlaw14_is.f p t u a p t u a = some true := by unfold precinctlaw14_is.f; simp
theorem NodeExpires : ∀ (a0_0 : Int) (a0_1 : Int) (a0_2 : Int) (a0_3 : Int) (a1_0 : Int) (a1_1 : Int) (a1_2 : Int) (a1_3 : Int) (a1_4 : Bool), (Lit.int .i64 a0_0).wf = true → (Lit.int .i64 a0_1).wf = true → (Lit.int .i64 a0_2).wf = true → (Lit.int .i64 a0_3).wf = true → (Lit.int .i64 a1_0).wf = true → (Lit.int .i64 a1_1).wf = true → (Lit.int .i64 a1_2).wf = true → (Lit.int .i64 a1_3).wf = true → ∃ k, precinctlaw14_NodeExpires.f k a0_0 a0_1 a0_2 a0_3 a1_0 a1_1 a1_2 a1_3 a1_4 = some true := by
  intro p t u a now lease try_ tries ok _ _ _ _ _ _ _ _
  refine ⟨4, ?_⟩
  unfold precinctlaw14_NodeExpires.f
  simp only [Option.bind_some]
  have hw : ∀ k, precinctlaw14_wakes.f (k + 1) = some true := fun k => at_rounds precinctlaw14_wakes.mono (by omega) wakes_some
  have round : ∀ (xs : List Int) (k : Nat) (i : Int), 0 ≤ i → i < 2 → xs.length = 2 → precinctlaw14_NodeExpires.l0 (k + 2) xs 2 i p t u a now lease try_ tries ok = precinctlaw14_NodeExpires.l0 (k + 1) xs 2 (i + 1) p t u a now lease try_ tries ok := by
    intro xs k i h0 h1 hx
    rw [precinctlaw14_NodeExpires.l0, if_pos h1, if_pos h0, if_pos (by omega), w64 (by omega) (by omega)]
    simp only [Option.bind_some, precinctlaw14_made.f, exp_some, rexp_some, is_same, if_true]
    simp
  have fin : ∀ (xs : List Int) (k : Nat), precinctlaw14_NodeExpires.l0 (k + 2) xs 2 2 p t u a now lease try_ tries ok = some true := by
    intro xs k
    rw [precinctlaw14_NodeExpires.l0, if_neg (by omega), hw]; rfl
  rw [show (([_, _] : List Int).length : Int) = 2 by rfl, round _ 2 0 (by omega) (by omega) rfl, round _ 1 _ (by omega) (by omega) rfl]
  exact fin _ 0
end Go.Proofs.Ytelhajoedlaohaa.Pure
