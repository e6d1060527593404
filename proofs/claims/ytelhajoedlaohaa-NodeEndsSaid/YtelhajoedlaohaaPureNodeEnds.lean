/- Of all numbers of tries, answers and times: a node that is leased again and again is Failed behind just as many tries as it has, or Done for good; and the fixed example. No condition beyond the statement's own. -/
import Derived.Test.YtelhajoedlaohaaPNodeEndsx2
import Derived.Test.YtelhajoedlaohaaPlain
namespace Go.Proofs.Ytelhajoedlaohaa.Pure
set_option linter.unusedVariables false
set_option linter.unusedSimpArgs false
open Go Go.RowKit Go.Proofs.Ytelhajoedlaohaa.Plain Go.Proofs.Ytelhajoedlaohaa.PNodeEnds Go.Proofs.YtelhajoedlaohaaW.PrintWords Go.Proofs.YtelhajoedlaohaaW.PrintLast Go.Proofs.YtelhajoedlaohaaW.PrintMore
/-- what Finish answers -/
def finR (p t u a now try_ tries : Int) (ok : Bool) : Int × Int × Int × Int × Int :=
  if p = 2 ∧ t = try_ ∧ ¬ now > u then (if ok = true then (4, t, 0, now, 0) else if t < tries then (1, t, 0, now, 0) else (5, t, 0, now, 0)) else (0, 0, 0, 0, 36)
theorem fin_some (k : Nat) (p t u a now try_ tries : Int) (ok : Bool) : node_State_Finish.f (k + 1) p t u a now try_ tries ok = some (finR p t u a now try_ tries ok) := by
  unfold node_State_Finish.f finR
  simp only [node_State_Finish.j0, node_State_again.f, node_State_to.f]
  by_cases h2 : t = try_
  · subst h2
    by_cases h1 : p = 2 <;> by_cases h3 : now > u <;> cases ok <;> by_cases h4 : t < tries <;> simp [h1, h3, h4]
  · by_cases h1 : p = 2 <;> by_cases h3 : now > u <;> cases ok <;> by_cases h4 : t < tries <;> simp [h1, h2, h3, h4]
/-- what Expire answers -/
def expR (p t u a now tries : Int) : Int × Int × Int × Int × Bool :=
  if now > u then (if p = 2 then (if t < tries then (1, t, 0, now, true) else (5, t, 0, now, true)) else if p = 3 then (5, t, 0, now, true) else (p, t, u, a, false)) else (p, t, u, a, false)
theorem exp_some (k : Nat) (p t u a now tries : Int) : node_State_Expire.f (k + 1) p t u a now tries = some (expR p t u a now tries) := by
  unfold node_State_Expire.f expR
  simp only [node_State_Expire.j0, node_State_again.f, node_State_to.f]
  by_cases h1 : p = 2 <;> by_cases h3 : now > u <;> by_cases h4 : t < tries <;> by_cases h5 : p = 3 <;> simp [h1, h3, h4, h5] <;> omega
theorem wakes_some : precinctlaw14_wakes.f 1 = some true := by decide +kernel
theorem lease_ready (t u a now : Int) (h0 : 0 ≤ now) (h1 : now ≤ 1000000) (t0 : 0 ≤ t) (t1 : t ≤ 100) : node_State_Lease.f 1 t u a now 5 = some (2, t + 1, now + 5, now, 0) := by
  unfold node_State_Lease.f node_State_from.f node_State_to.f node_until.f
  have e : mx 0 5 = 5 := by decide +kernel
  simp only [if_true, Option.bind_some, e]
  rw [w64 (n := 9223372036854775807 - 5) (by omega) (by omega), if_neg (by omega), w64 (n := now + 5) (by omega) (by omega)]
  simp only [Option.bind_some]
  rw [if_pos (by omega), w64 (by omega) (by omega)]
theorem lease_other (p t u a now lease : Int) (h : p ≠ 1) : node_State_Lease.f p t u a now lease = some (0, 0, 0, 0, 36) := by
  unfold node_State_Lease.f node_State_from.f
  simp [h]
theorem over_done (p t u a : Int) (h : p = 4 ∨ p = 5) : node_State_Over.f p t u a = some true := by
  unfold node_State_Over.f
  rcases h with rfl | rfl <;> simp
theorem ends_loop (T : Int) (hT : T ≤ 20) (l1 : List Bool) (l2 : List Int) (d : Nat) : ∀ (k : Nat) (i now p u a : Int), 0 ≤ i → T - i = d → 0 ≤ now → now ≤ i * 1010 → (p = if i < T then 1 else 5) → 6 * d + 6 ≤ k →
    precinctlaw14_NodeEnds.l0 k T l1 l2 now T i p i u a = some true := by
  induction d with
  | zero =>
    intro k i now p u a h0 hd n0 n1 hp hk
    obtain ⟨k, rfl⟩ : ∃ m, k = m + 1 := ⟨k - 1, by omega⟩
    rw [if_neg (by omega)] at hp
    subst hp
    rw [precinctlaw14_NodeEnds.l0, if_neg (by omega), lease_other _ _ _ _ _ _ (by omega)]
    simp only [Option.bind_some, if_true]
    rw [over_done _ _ _ _ (by omega)]
    rfl
  | succ d ih =>
    intro k i now p u a h0 hd n0 n1 hp hk
    obtain ⟨k, rfl⟩ : ∃ m, k = m + 6 := ⟨k - 6, by omega⟩
    rw [if_pos (by omega)] at hp
    subst hp
    have rest : ∀ now' : Int, now ≤ now' → now' ≤ now + 999 → precinctlaw14_NodeEnds.j2 (k + 5) T l1 l2 now' i T i 1 i u a = some true := by
      intro now' m0 m1
      rw [precinctlaw14_NodeEnds.j2, lease_ready _ _ _ _ (by omega) (by omega) (by omega) (by omega)]
      simp only [Option.bind_some, if_true]
      rw [w64 (n := i + 1) (by omega) (by omega), show (i + 1 != i + 1) = false by simp]
      rw [precinctlaw14_NodeEnds.j3, if_neg (by simp)]
      have next : ∀ (ok : Bool), precinctlaw14_NodeEnds.j4 (k + 3) T l1 l2 now' i ok T i 2 (i + 1) (now' + 5) now' = some true := by
        intro ok
        have fin : precinctlaw14_NodeEnds.j5 (k + 2) T l1 l2 now' i ok T i false 2 (i + 1) (now' + 5) now' = some true := by
          rw [precinctlaw14_NodeEnds.j5, if_neg (by simp), w64 (n := now' + 5) (by omega) (by omega), w64 (n := i + 1) (by omega) (by omega), fin_some]
          have e : finR 2 (i + 1) (now' + 5) now' (now' + 5) (i + 1) T ok = (if ok = true then (4, i + 1, 0, now' + 5, 0) else if i + 1 < T then (1, i + 1, 0, now' + 5, 0) else (5, i + 1, 0, now' + 5, 0)) := by
            unfold finR; rw [if_pos ⟨rfl, rfl, by omega⟩]
          rw [e]
          cases ok with
          | true =>
            simp only [if_true, Option.bind_some]
            rw [lease_other _ _ _ _ _ _ (by omega), fin_some, exp_some, over_done _ _ _ _ (by omega)]
            simp [finR, expR]
          | false =>
            rw [if_neg (by simp)]
            by_cases hc : i + 1 < T
            · rw [if_pos hc]
              simp only [Option.bind_some, if_true]
              rw [if_neg (by simp)]
              exact ih (k + 1) (i + 1) now' 1 0 _ (by omega) (by omega) (by omega) (by omega) (by rw [if_pos hc]) (by omega)
            · rw [if_neg hc]
              simp only [Option.bind_some, if_true]
              rw [if_neg (by simp)]
              exact ih (k + 1) (i + 1) now' 5 0 _ (by omega) (by omega) (by omega) (by omega) (by rw [if_neg hc]) (by omega)
        have exp : precinctlaw14_NodeEnds.j5 (k + 2) T l1 l2 now' i ok T i true 2 (i + 1) (now' + 5) now' = some true := by
          rw [precinctlaw14_NodeEnds.j5, if_pos rfl, w64 (n := now' + 5) (by omega) (by omega), w64 (n := now' + 6) (by omega) (by omega), exp_some, exp_some, w64 (n := i + 1) (by omega) (by omega)]
          have e1 : expR 2 (i + 1) (now' + 5) now' (now' + 5) T = (2, i + 1, now' + 5, now', false) := by
            unfold expR; rw [if_neg (by omega)]
          have e2 : expR 2 (i + 1) (now' + 5) now' (now' + 6) T = (if i + 1 < T then (1, i + 1, 0, now' + 6, true) else (5, i + 1, 0, now' + 6, true)) := by
            unfold expR; rw [if_pos (by omega), if_pos rfl]
          rw [e1, e2]
          simp only [Option.bind_some]
          rw [if_neg (by simp)]
          by_cases hc : i + 1 < T
          · rw [if_pos hc]
            simp only [if_true]
            exact ih (k + 1) (i + 1) (now' + 6) 1 0 _ (by omega) (by omega) (by omega) (by omega) (by rw [if_pos hc]) (by omega)
          · rw [if_neg hc]
            simp only [if_true]
            exact ih (k + 1) (i + 1) (now' + 6) 5 0 _ (by omega) (by omega) (by omega) (by omega) (by rw [if_neg hc]) (by omega)
        rw [precinctlaw14_NodeEnds.j4]
        by_cases hok : ok = true
        · rw [if_pos hok]; exact fin
        · rw [if_neg hok]
          cases (Int.tmod i 2 == 1)
          · exact fin
          · exact exp
      by_cases hl : i < (l1.length : Int)
      · rw [if_pos hl, if_pos h0]; exact next _
      · rw [if_neg hl]; exact next _
    rw [precinctlaw14_NodeEnds.l0, if_pos (by omega), if_pos rfl]
    by_cases hl : i < (l2.length : Int)
    · have hm : 0 ≤ mx 0 (rd l2 i) := by unfold mx; split <;> omega
      rw [if_pos hl, if_pos h0, w64 (by omega) (by omega)]
      exact rest _ (by omega) (by omega)
    · rw [if_neg hl]; exact rest _ (by omega) (by omega)
theorem NodeEnds : ∀ (a0 : Int) (l1 : List (Bool)) (l2 : List (Int)), (Lit.int .i64 a0).wf = true → l1.length ≤ maxLen → (∀ x ∈ l2, (Lit.int .i64 x).wf = true) → l2.length ≤ maxLen → ∃ k, precinctlaw14_NodeEnds.f k a0 l1 l2 = some true := by
  intro n l1 l2 _ _ _ _
  refine ⟨1000, ?_⟩
  unfold precinctlaw14_NodeEnds.f
  have hw : precinctlaw14_wakes.f 1000 = some true := at_rounds precinctlaw14_wakes.mono (by omega) wakes_some
  have e : node_State_Wake.f 0 0 0 0 0 0 false = some (1, 0, 0, 0, 0) := by decide +kernel
  have hm : 0 ≤ mx 0 n := by unfold mx; split <;> omega
  rw [e, hw]
  simp only [Option.bind_some, if_true]
  rw [precinctlaw14_NodeEnds.j0, if_neg (by simp)]
  exact ends_loop (1 + (mx 0 n) % 20) (by omega) l1 l2 (1 + (mx 0 n) % 20).toNat 999 0 0 1 0 0 (by omega) (by omega) (by omega) (by omega) (by rw [if_pos (by omega)]) (by omega)
end Go.Proofs.Ytelhajoedlaohaa.Pure
