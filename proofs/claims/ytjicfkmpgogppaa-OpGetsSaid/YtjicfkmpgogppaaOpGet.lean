/-
  What is read as a request, and as an answer: by the program.
-/
import Derived.Test.YtjicfkmpgogppaaPOx13
import Derived.Test.YtjicfkmpgogppaaPOx22
import Derived.Test.YtjicfkmpgogppaaGetOne
namespace Go.Proofs.Ytjicfkmpgogppaa.Op
set_option linter.unusedVariables false
set_option linter.unusedSimpArgs false
open Go Go.RowKit Go.Proofs.Ytjicfkmpgogppaa.Plain Go.Proofs.Ytjicfkmpgogppaa.Words Go.Proofs.Ytjicfkmpgogppaa.Vr Go.Proofs.Ytjicfkmpgogppaa.Vs Go.Proofs.Ytjicfkmpgogppaa.Rr Go.Proofs.Ytjicfkmpgogppaa.PO Go.Proofs.YtjicfkmpgogppaaW.PrintWords Go.Proofs.YtjicfkmpgogppaaW.PrintLast Go.Proofs.YtjicfkmpgogppaaW.PrintMore
theorem three {α : Type} : ∀ l : List α, (l.length : Int) = 3 → ∃ p q r, l = [p, q, r]
  | [p, q, r], _ => ⟨p, q, r, rfl⟩
  | [], h => by simp at h
  | [_], h => by simp at h
  | [_, _], h => by simp at h
  | _ :: _ :: _ :: _ :: _, h => by simp only [List.length_cons] at h; omega
theorem two {α : Type} : ∀ l : List α, (l.length : Int) = 2 → ∃ p q, l = [p, q]
  | [p, q], _ => ⟨p, q, rfl⟩
  | [], h => by simp at h
  | [_], h => by simp at h
  | _ :: _ :: _ :: _, h => by simp only [List.length_cons] at h; omega
/-- what a request is, of the value that was read -/
def reqR (y : Vs.V) (e : Int) : ByteArray × Int × List Vs.V × Int :=
  if e = 0 then (if y.f0 = 2 ∧ (y.f3.length : Int) = 3 ∧ (rd_T54 y.f3 0).f0 = 1 ∧ (rd_T54 y.f3 1).f0 = 0 ∧ (rd_T54 y.f3 2).f0 = 2 ∧ 0 ≤ (rd_T54 y.f3 1).f1 ∧ (rd_T54 y.f3 1).f1 < 10
    then ((rd_T54 y.f3 0).f2, (rd_T54 y.f3 1).f1, (rd_T54 y.f3 2).f3, 0) else (⟨#[]⟩, 0, [], 4)) else (⟨#[]⟩, 0, [], e)
def toldR (y : Vs.V) (e : Int) : Int × Vs.V × Int :=
  if e = 0 then (if y.f0 = 2 ∧ (y.f3.length : Int) = 2 ∧ (rd_T54 y.f3 0).f0 = 0 ∧ 0 ≤ (rd_T54 y.f3 0).f1 ∧ (rd_T54 y.f3 0).f1 ≤ 2147483647
    then ((rd_T54 y.f3 0).f1, rd_T54 y.f3 1, 0) else (0, noV, 4)) else (0, noV, e)
theorem ip {α : Type} {c : Prop} [Decidable c] {a b x : α} (h : c) (g : a = x) : (if c then a else b) = x := (if_pos h).trans g
theorem iq {α : Type} {c : Prop} [Decidable c] {a b x : α} (h : ¬ c) (g : b = x) : (if c then a else b) = x := (if_neg h).trans g
theorem reqR_no (y : Vs.V) (h : ¬ (y.f0 = 2 ∧ (y.f3.length : Int) = 3 ∧ (rd_T54 y.f3 0).f0 = 1 ∧ (rd_T54 y.f3 1).f0 = 0 ∧ (rd_T54 y.f3 2).f0 = 2 ∧ 0 ≤ (rd_T54 y.f3 1).f1 ∧ (rd_T54 y.f3 1).f1 < 10)) : reqR y 0 = (⟨#[]⟩, 0, [], 4) := by
  unfold reqR
  rw [if_pos rfl, if_neg h]
theorem reqR_bad {b : Int} {c : ByteArray} {p0 p1 : Int} {p2 : ByteArray} {p3 : List Vs.V} {q0 q1 : Int} {q2 : ByteArray} {q3 : List Vs.V} {r0 r1 : Int} {r2 : ByteArray} {r3 : List Vs.V} (h : ¬ (p0 = 1 ∧ q0 = 0 ∧ r0 = 2 ∧ 0 ≤ q1 ∧ q1 < 10)) : reqR ⟨2, b, c, [⟨p0, p1, p2, p3⟩, ⟨q0, q1, q2, q3⟩, ⟨r0, r1, r2, r3⟩]⟩ 0 = (⟨#[]⟩, 0, [], 4) := by
  unfold reqR
  exact (if_pos rfl).trans (if_neg (fun g => h g.2.2))
theorem reqR_yes (b : Int) (c : ByteArray) (p1 : Int) (p2 : ByteArray) (p3 : List Vs.V) (q1 : Int) (q2 : ByteArray) (q3 : List Vs.V) (r1 : Int) (r2 : ByteArray) (r3 : List Vs.V) (h0 : 0 ≤ q1) (h1 : q1 < 10) : reqR ⟨2, b, c, [⟨1, p1, p2, p3⟩, ⟨0, q1, q2, q3⟩, ⟨2, r1, r2, r3⟩]⟩ 0 = (p2, q1, r3, 0) := by
  unfold reqR
  exact (if_pos rfl).trans (if_pos ⟨rfl, rfl, rfl, rfl, rfl, h0, h1⟩)
theorem reqR_err (y : Vs.V) (e : Int) (h : ¬ e = 0) : reqR y e = (⟨#[]⟩, 0, [], e) := by
  unfold reqR
  rw [if_neg h]
theorem toldR_no (y : Vs.V) (h : ¬ (y.f0 = 2 ∧ (y.f3.length : Int) = 2 ∧ (rd_T54 y.f3 0).f0 = 0 ∧ 0 ≤ (rd_T54 y.f3 0).f1 ∧ (rd_T54 y.f3 0).f1 ≤ 2147483647)) : toldR y 0 = (0, noV, 4) := by
  unfold toldR
  rw [if_pos rfl, if_neg h]
theorem toldR_bad {b : Int} {c : ByteArray} {p0 p1 : Int} {p2 : ByteArray} {p3 : List Vs.V} {q : Vs.V} (h : ¬ (p0 = 0 ∧ 0 ≤ p1 ∧ p1 ≤ 2147483647)) : toldR ⟨2, b, c, [⟨p0, p1, p2, p3⟩, q]⟩ 0 = (0, noV, 4) := by
  unfold toldR
  exact (if_pos rfl).trans (if_neg (fun g => h g.2.2))
theorem toldR_yes (b : Int) (c : ByteArray) (p1 : Int) (p2 : ByteArray) (p3 : List Vs.V) (q : Vs.V) (h0 : 0 ≤ p1) (h1 : p1 ≤ 2147483647) : toldR ⟨2, b, c, [⟨0, p1, p2, p3⟩, q]⟩ 0 = (p1, q, 0) := by
  unfold toldR
  exact (if_pos rfl).trans (if_pos ⟨rfl, rfl, rfl, h0, h1⟩)
theorem toldR_err (y : Vs.V) (e : Int) (h : ¬ e = 0) : toldR y e = (0, noV, e) := by
  unfold toldR
  rw [if_neg h]
theorem opGet_is (s : ByteArray) (y : Vs.V) (e : Int) (h : pack_Get.f s = some (y.f0, y.f1, y.f2, y.f3, e)) (hz : ¬ (s.size : Int) > 4096) (k : Nat) : op_Get.f (k + 1) s = some (reqR y e) := by
  obtain ⟨a, b, c, l⟩ := y
  unfold op_Get.f
  rw [if_neg hz, h, Option.bind_some]
  dsimp only
  by_cases ce : e = 0
  · subst ce
    refine ip rfl ?_
    by_cases ca : a = 2
    · subst ca
      refine ip rfl ?_
      by_cases cl : (l.length : Int) = 3
      · obtain ⟨⟨p0, p1, p2, p3⟩, ⟨q0, q1, q2, q3⟩, ⟨r0, r1, r2, r3⟩, rfl⟩ := three l cl
        refine ip cl (ip (by simp) ?_)
        by_cases cp : p0 = 1
        · subst cp
          refine ip rfl (ip (by simp) ?_)
          by_cases cq : q0 = 0
          · subst cq
            refine ip rfl (ip (by simp) ?_)
            by_cases cr : r0 = 2
            · subst cr
              rw [op_Get.j0]
              refine iq (show ¬ ((2 : Int) != 2) = true by decide) (ip (by simp) ?_)
              by_cases c5 : q1 < 0
              · refine ip c5 ?_
                rw [reqR_bad (fun h => Int.not_le.mpr c5 h.2.2.2.1)]
              refine iq c5 ?_
              by_cases c6 : q1 ≥ 10
              · refine ip c6 ?_
                rw [reqR_bad (fun h => Int.not_lt.mpr c6 h.2.2.2.2)]
              refine iq c6 (ip (by simp) (ip (by simp) ?_))
              rw [reqR_yes b c p1 p2 p3 q1 q2 q3 r1 r2 r3 (by omega) (by omega)]
              rfl
            · rw [op_Get.j0]
              refine ip (show (r0 != 2) = true by simp [cr]) ?_
              rw [reqR_bad (fun h => cr h.2.2.1)]
          · refine iq cq ?_
            rw [op_Get.j0, reqR_bad (fun h => cq h.2.1)]
            rfl
        · refine iq cp ?_
          rw [op_Get.j0, reqR_bad (fun h => cp h.1)]
          rfl
      · refine iq cl ?_
        rw [op_Get.j0, reqR_no _ (fun h => cl h.2.1)]
        rfl
    · refine iq ca ?_
      rw [op_Get.j0, reqR_no _ (fun h => ca h.1)]
      rfl
  · refine iq ce ?_
    rw [reqR_err _ e ce]
theorem opTold_is (s : ByteArray) (y : Vs.V) (e : Int) (h : pack_Get.f s = some (y.f0, y.f1, y.f2, y.f3, e)) : op_Told.f s = some ((toldR y e).1, (toldR y e).2.1.f0, (toldR y e).2.1.f1, (toldR y e).2.1.f2, (toldR y e).2.1.f3, (toldR y e).2.2) := by
  obtain ⟨a, b, c, l⟩ := y
  unfold op_Told.f
  rw [h, Option.bind_some]
  dsimp only
  by_cases ce : e = 0
  · subst ce
    refine ip rfl ?_
    by_cases ca : a = 2
    · subst ca
      refine ip rfl ?_
      by_cases cl : (l.length : Int) = 2
      · obtain ⟨⟨p0, p1, p2, p3⟩, q, rfl⟩ := two l cl
        refine ip cl (ip (by simp) ?_)
        by_cases cp : p0 = 0
        · subst cp
          refine ip rfl ?_
          by_cases c5 : p1 < 0
          · refine ip c5 ?_
            rw [toldR_bad (fun h => Int.not_le.mpr c5 h.2.1)]
          refine iq c5 ?_
          by_cases c6 : p1 > 2147483647
          · refine ip c6 ?_
            rw [toldR_bad (fun h => Int.not_le.mpr c6 h.2.2)]
          refine iq c6 (ip (by simp) ?_)
          rw [toldR_yes b c p1 p2 p3 q (by omega) (by omega)]
          rfl
        · refine iq cp ?_
          rw [toldR_bad (fun h => cp h.1)]
      · refine iq cl ?_
        rw [toldR_no _ (fun h => cl h.2.1)]
    · refine iq ca ?_
      rw [toldR_no _ (fun h => ca h.1)]
  · refine iq ce ?_
    rw [toldR_err _ e ce]
theorem small_req {y : Vs.V} (h : Small y) (e : Int) : (reqR y e).2.2.1.length ≤ 1000 ∧ ∀ x ∈ (reqR y e).2.2.1, Small x := by
  rw [Small_eq] at h
  unfold reqR
  by_cases ce : e = 0
  · rw [if_pos ce]
    split
    · rename_i hc
      have hm := rdV y.f3 2 (by omega) (by omega)
      have := h.2 _ hm.1
      rw [Small_eq] at this
      exact this
    · simp
  · rw [if_neg ce]; simp
theorem small_told {y : Vs.V} (h : Small y) (e : Int) : Small (toldR y e).2.1 := by
  rw [Small_eq] at h
  unfold toldR
  by_cases ce : e = 0
  · rw [if_pos ce]
    split
    · rename_i hc
      exact h.2 _ (rdV y.f3 1 (by omega) (by omega)).1
    · exact small_no
  · rw [if_neg ce]; exact small_no
end Go.Proofs.Ytjicfkmpgogppaa.Op
