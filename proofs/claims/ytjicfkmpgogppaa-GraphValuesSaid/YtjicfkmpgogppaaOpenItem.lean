/-
  How a statement's items are read.
-/
import Derived.Test.YtjicfkmpgogppaaPGx0
import Derived.Test.YtjicfkmpgogppaaOpen
namespace Go.Proofs.Ytjicfkmpgogppaa.Open
set_option linter.unusedVariables false
set_option linter.unusedSimpArgs false
open Go Go.ChangeShapes Go.WideShapes Go.RowKit Go.Deep Go.Joins Go.Proofs.Ytjicfkmpgogppaa.PG Go.Proofs.YtjicfkmpgogppaaW.PrintWords Go.Proofs.YtjicfkmpgogppaaW.PrintLast Go.Proofs.YtjicfkmpgogppaaW.PrintMore
instance : Inhabited S137 := ⟨z137⟩
set_option maxRecDepth 100000 in
theorem opens_item {H : Type} {enc : TypeId × Value → H} {w : World} : Opens enc Try.prog w 137 k137 (fun x => (Lit.int .i64 x.f0).wf = true ∧ (Lit.int .i64 x.f1).wf = true ∧ x.f2.size ≤ maxLen ∧ (Lit.int .i64 x.f3).wf = true) (fun x => x.f2.size + 1) := by
  intro fuel cs x h
  obtain ⟨y0, y1, y2, y3, n, rfl, hl, h0, h1, h2, h3⟩ := trod_struct4 Try.underlying137 h
  have hc : Try.prog.cellsOf 137 = 4 := by kernel_rfl
  have c3 : Try.prog.cellsOf 3 = 1 := by kernel_rfl
  have c2 : Try.prog.cellsOf 2 = 1 := by kernel_rfl
  have c9 : Try.prog.cellsOf 9 = 1 := by kernel_rfl
  rw [hc] at hl
  match cs, hl with
  | [u0, u1, u2, u3], _ =>
    simp only [c3, c2, c9, List.drop_zero, List.drop_succ_cons, List.take_succ_cons, List.take_zero] at h0 h1 h2 h3
    obtain ⟨a, e0, rfl, w0⟩ := DataW.trod_int Try.underlying3 h0
    obtain ⟨b, e1, rfl, w1⟩ := DataW.trod_int Try.underlying2 h1
    obtain ⟨s, e2, rfl, w2⟩ := DataW.trod_string Try.underlying9 h2
    obtain ⟨d, e3, rfl, w3⟩ := DataW.trod_int Try.underlying3 h3
    simp only [List.cons.injEq, and_true] at e0 e1 e2 e3
    subst e0; subst e1; subst e2; subst e3
    refine ⟨⟨a, b, s, d⟩, k137_mk w ⟨a, b, s, d⟩, ⟨w0, w1, w2, w3⟩, ?_⟩
    simp [Rows.uptoBulk, Rows.uptoBulkAll]
    omega
end Go.Proofs.Ytjicfkmpgogppaa.Open
