/- Of every state that is over, and every ask: each step is refused, and the state stays; and the fixed example. No condition beyond the statement's own. -/
import Derived.Test.YtelhajoedlaohaaPNodeOverx3
import Derived.Test.YtelhajoedlaohaaPlain
namespace Go.Proofs.Ytelhajoedlaohaa.Pure
open Go Go.RowKit Go.Proofs.Ytelhajoedlaohaa.Plain Go.Proofs.Ytelhajoedlaohaa.PNodeOver Go.Proofs.YtelhajoedlaohaaW.PrintWords Go.Proofs.YtelhajoedlaohaaW.PrintLast Go.Proofs.YtelhajoedlaohaaW.PrintMore
theorem wakes_some : precinctlaw14_wakes.f 1 = some true := by decide +kernel
theorem wakes_some2 : precinctlaw14_wakes.f 2 = some true := by decide +kernel
theorem over_some (p t u a : Int) : node_State_Over.f p t u a = some (decide (p = 4 ∨ p = 5 ∨ p = 6)) := by
  unfold node_State_Over.f
  by_cases h1 : p = 4 <;> by_cases h2 : p = 5 <;> by_cases h3 : p = 6 <;> simp [h1, h2, h3]
theorem NodeOver : ∀ (a0_0 : Int) (a0_1 : Int) (a0_2 : Int) (a0_3 : Int) (a1_0 : Int) (a1_1 : Int) (a1_2 : Int) (a1_3 : Int) (a1_4 : Bool), (Lit.int .i64 a0_0).wf = true → (Lit.int .i64 a0_1).wf = true → (Lit.int .i64 a0_2).wf = true → (Lit.int .i64 a0_3).wf = true → (Lit.int .i64 a1_0).wf = true → (Lit.int .i64 a1_1).wf = true → (Lit.int .i64 a1_2).wf = true → (Lit.int .i64 a1_3).wf = true → ∃ k, precinctlaw14_NodeOver.f k a0_0 a0_1 a0_2 a0_3 a1_0 a1_1 a1_2 a1_3 a1_4 = some true := by
  intro p t u a now lease try_ tries ok _ _ _ _ _ _ _ _
  refine ⟨2, ?_⟩
  unfold precinctlaw14_NodeOver.f
  simp only [Option.bind_some, precinctlaw14_made.f, wakes_some2, over_some, if_true]
  by_cases h : p = 4 ∨ p = 5 ∨ p = 6
  · have h0 : p ≠ 0 := by omega
    have h1 : p ≠ 1 := by omega
    have h2 : p ≠ 2 := by omega
    have h3 : p ≠ 3 := by omega
    simp only [precinctlaw14_NodeOver.j0, node_State_Wake.f, node_State_from.f, node_State_Skip.f, node_State_Lease.f, node_State_Finish.f, node_State_Finish.j0, node_State_Answer.f, node_State_Answer.j0, node_State_Expire.f, node_State_Expire.j0]
    cases ok <;> simp [h, h0, h1, h2, h3]
  · simp only [precinctlaw14_NodeOver.j0]
    simp [h, wakes_some]
end Go.Proofs.Ytelhajoedlaohaa.Pure
