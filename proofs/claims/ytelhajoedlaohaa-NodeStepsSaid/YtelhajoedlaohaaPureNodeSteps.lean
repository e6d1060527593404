/- Of every state and ask: Wake, Skip, Lease and Answer are the reference's, and so is what is over; and the fixed example. No condition beyond the statement's own. -/
import Derived.Test.YtelhajoedlaohaaPNodeStepsx3
import Derived.Test.YtelhajoedlaohaaPlain
namespace Go.Proofs.Ytelhajoedlaohaa.Pure
set_option linter.unusedVariables false
set_option linter.unusedSimpArgs false
open Go Go.RowKit Go.Proofs.Ytelhajoedlaohaa.Plain Go.Proofs.Ytelhajoedlaohaa.PNodeSteps Go.Proofs.YtelhajoedlaohaaW.PrintWords Go.Proofs.YtelhajoedlaohaaW.PrintLast Go.Proofs.YtelhajoedlaohaaW.PrintMore
/-- up to when a lease lasts -/
def untilR (now lease : Int) : Int := if lease ≤ 0 then now else if now > 9223372036854775807 - lease then 9223372036854775807 else now + lease
theorem until_some {now lease : Int} (hn : -9223372036854775808 ≤ now ∧ now ≤ 9223372036854775807) (hl : -9223372036854775808 ≤ lease ∧ lease ≤ 9223372036854775807) : node_until.f now lease = some (untilR now lease) := by
  unfold node_until.f untilR
  by_cases h : 0 < lease
  · have e : mx 0 lease = lease := by unfold mx; rw [if_pos h]
    rw [e, w64 (n := 9223372036854775807 - lease) (by omega) (by omega), if_neg (show ¬ lease ≤ 0 by omega)]
    by_cases c : now > 9223372036854775807 - lease
    · rw [if_pos c, if_pos c]
    · rw [if_neg c, if_neg c, w64 (by omega) (by omega)]
  · have e : mx 0 lease = 0 := by unfold mx; rw [if_neg h]
    rw [e, w64 (n := 9223372036854775807 - 0) (by omega) (by omega), if_neg (by omega), w64 (by omega) (by omega), if_pos (by omega)]
    simp
theorem runtil_some {now lease : Int} (hn : -9223372036854775808 ≤ now ∧ now ≤ 9223372036854775807) (hl : -9223372036854775808 ≤ lease ∧ lease ≤ 9223372036854775807) : precinctref14_Until.f now lease = some (untilR now lease) := by
  unfold precinctref14_Until.f untilR
  by_cases h : lease ≤ 0
  · rw [if_pos h, if_pos h]
  · rw [if_neg h, if_neg h, w64 (n := 9223372036854775807 - lease) (by omega) (by omega)]
    by_cases c : now > 9223372036854775807 - lease
    · rw [if_pos c, if_pos c]
    · rw [if_neg c, if_neg c, w64 (by omega) (by omega)]
def wakeR (p t u a now lease : Int) (call : Bool) : Int × Int × Int × Int × Int := if p = 0 then (if call = true then (3, t, untilR now lease, now, 0) else (1, t, 0, now, 0)) else (0, 0, 0, 0, 36)
def skipR (p t u a now : Int) : Int × Int × Int × Int × Int := if p = 0 then (6, t, 0, now, 0) else (0, 0, 0, 0, 36)
def leaseR (p t u a now lease : Int) : Int × Int × Int × Int × Int := if p = 1 then (2, if t = 9223372036854775807 then t else t + 1, untilR now lease, now, 0) else (0, 0, 0, 0, 36)
def answerR (p t u a now : Int) (ok : Bool) : Int × Int × Int × Int × Int := if p = 3 ∧ ¬ now > u then (if ok = true then 4 else 5, t, 0, now, 0) else (0, 0, 0, 0, 36)
theorem is_same (p t u a : Int) : precinctlaw14_is.f p t u a p t u a = some true := by unfold precinctlaw14_is.f; simp
theorem wakes_some : precinctlaw14_wakes.f 1 = some true := by decide +kernel
theorem over_some (p t u a : Int) : node_State_Over.f p t u a = some (decide (4 ≤ p ∧ p ≤ 6)) := by
  unfold node_State_Over.f
  by_cases h1 : p = 4
  · subst h1; simp
  · by_cases h2 : p = 5
    · subst h2; simp
    · rw [if_neg h1, if_neg h2]
      congr 1
      rw [Bool.eq_iff_iff]; simp; omega
theorem rover_some (p t u a : Int) : precinctref14_Over.f p t u a = some (decide (4 ≤ p ∧ p ≤ 6)) := by
  unfold precinctref14_Over.f
  by_cases h1 : p ≥ 4
  · rw [if_pos h1]; congr 1; rw [Bool.eq_iff_iff]; simp; omega
  · rw [if_neg h1]; congr 1; rw [eq_comm, decide_eq_false_iff_not]; omega
theorem NodeSteps : ∀ (a0_0 : Int) (a0_1 : Int) (a0_2 : Int) (a0_3 : Int) (a1_0 : Int) (a1_1 : Int) (a1_2 : Int) (a1_3 : Int) (a1_4 : Bool), (Lit.int .i64 a0_0).wf = true → (Lit.int .i64 a0_1).wf = true → (Lit.int .i64 a0_2).wf = true → (Lit.int .i64 a0_3).wf = true → (Lit.int .i64 a1_0).wf = true → (Lit.int .i64 a1_1).wf = true → (Lit.int .i64 a1_2).wf = true → (Lit.int .i64 a1_3).wf = true → ∃ k, precinctlaw14_NodeSteps.f k a0_0 a0_1 a0_2 a0_3 a1_0 a1_1 a1_2 a1_3 a1_4 = some true := by
  intro p t u a now lease try_ tries ok hp ht hu ha hnow hlease _ _
  have ht' := wf_i64 ht
  have hn' := wf_i64 hnow
  have hl' := wf_i64 hlease
  refine ⟨5, ?_⟩
  have e1 : node_State_Wake.f p t u a now lease ok = some (wakeR p t u a now lease ok) := by
    unfold node_State_Wake.f node_State_from.f node_State_to.f wakeR
    by_cases h : p = 0 <;> cases ok <;> simp [h, until_some hn' hl']
  have e2 : precinctref14_Wake.f p t u a now lease ok = some (wakeR p t u a now lease ok) := by
    unfold precinctref14_Wake.f wakeR
    by_cases h : p = 0 <;> cases ok <;> simp [h, runtil_some hn' hl']
  have e3 : node_State_Skip.f p t u a now = some (skipR p t u a now) := by
    unfold node_State_Skip.f node_State_from.f node_State_to.f skipR
    by_cases h : p = 0 <;> simp [h]
  have e4 : precinctref14_Skip.f p t u a now = some (skipR p t u a now) := by
    unfold precinctref14_Skip.f skipR
    by_cases h : p = 0 <;> simp [h]
  have e5 : node_State_Lease.f p t u a now lease = some (leaseR p t u a now lease) := by
    unfold node_State_Lease.f node_State_from.f node_State_to.f leaseR
    by_cases h : p = 1
    · by_cases c : t = 9223372036854775807
      · simp [h, until_some hn' hl', c]
      · have : t < 9223372036854775807 := by omega
        have : wrap64 (t + 1) = t + 1 := w64 (by omega) (by omega)
        simp [h, until_some hn' hl', c, *]
    · simp [h]
  have e6 : precinctref14_Lease.f p t u a now lease = some (leaseR p t u a now lease) := by
    unfold precinctref14_Lease.f leaseR
    by_cases h : p = 1
    · by_cases c : t = 9223372036854775807
      · simp [h, runtil_some hn' hl', c]
      · have : wrap64 (t + 1) = t + 1 := w64 (by omega) (by omega)
        simp [h, runtil_some hn' hl', c, *]
    · simp [h]
  have e7 : node_State_Answer.f 2 p t u a now ok = some (answerR p t u a now ok) := by
    unfold node_State_Answer.f answerR
    simp only [node_State_Answer.j0, node_State_to.f]
    by_cases h : p = 3 <;> by_cases c : now > u <;> cases ok <;> simp [h, c]
  have e8 : precinctref14_Answer.f 2 p t u a now ok = some (answerR p t u a now ok) := by
    unfold precinctref14_Answer.f answerR
    simp only [precinctref14_Answer.j0]
    by_cases h : p = 3 <;> by_cases c : now > u <;> cases ok <;> simp [h, c]
  have hw : precinctlaw14_wakes.f 5 = some true := at_rounds precinctlaw14_wakes.mono (by omega) wakes_some
  unfold precinctlaw14_NodeSteps.f
  simp only [Option.bind_some, precinctlaw14_made.f, e1, e2, hw, over_some, rover_some, if_true, is_same, bne_self_eq_false, Bool.false_eq_true, if_false, Bool.not_true]
  simp only [precinctlaw14_NodeSteps.j0, Option.bind_some, e3, e4, if_true, is_same, Bool.false_eq_true, if_false, Bool.not_true]
  simp only [precinctlaw14_NodeSteps.j1, Option.bind_some, e5, e6, if_true, is_same, Bool.false_eq_true, if_false, Bool.not_true]
  simp only [precinctlaw14_NodeSteps.j2, Option.bind_some, e7, e8, if_true, is_same, Bool.false_eq_true, if_false, Bool.not_true]
end Go.Proofs.Ytelhajoedlaohaa.Pure
