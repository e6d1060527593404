/-
  How a workflow's nodes (plain data) are read.
-/
import Derived.Test.YtjicfkmpgogppaaPGx0
import Derived.Test.YtjicfkmpgogppaaOpen
namespace Go.Proofs.Ytjicfkmpgogppaa.Open
set_option linter.unusedVariables false
set_option linter.unusedSimpArgs false
open Go Go.ChangeShapes Go.WideShapes Go.RowKit Go.Deep Go.Joins Go.Proofs.Ytjicfkmpgogppaa.PG Go.Proofs.YtjicfkmpgogppaaW.PrintWords Go.Proofs.YtjicfkmpgogppaaW.PrintLast Go.Proofs.YtjicfkmpgogppaaW.PrintMore
instance : Inhabited S124 := ⟨z124⟩
/-- what is known of a node that was read -/
def NodeGood (x : S124) : Prop := x.f0.size ≤ maxLen ∧ (∀ d ∈ x.f1, d.size ≤ maxLen) ∧ (Lit.int .i64 x.f2).wf = true ∧ (Lit.int .i64 x.f3).wf = true ∧ (Lit.int .i64 x.f4).wf = true ∧ x.f5.size ≤ maxLen
set_option maxRecDepth 100000 in
theorem opens_node {H : Type} {enc : TypeId × Value → H} {w : World} : Opens enc Try.prog w 124 k124 NodeGood (fun _ => 0) := by
  intro fuel cs x h
  obtain ⟨xs, n, rfl, hx, hl, hlen, hg⟩ := DataW.trod_struct Try.underlying124 h
  have hc : Try.prog.cellsOf 124 = 6 := by kernel_rfl
  have c9 : Try.prog.cellsOf 9 = 1 := by kernel_rfl
  have c46 : Try.prog.cellsOf 46 = 1 := by kernel_rfl
  have c3 : Try.prog.cellsOf 3 = 1 := by kernel_rfl
  have c2 : Try.prog.cellsOf 2 = 1 := by kernel_rfl
  rw [hc] at hl
  match cs, hl, xs, hlen with
  | [u0, u1, u2, u3, u4, u5], _, [y0, y1, y2, y3, y4, y5], _ =>
    have h0 : DataW.trod enc Try.prog w 0 (fun _ => true) true n 9 (([u0, u1, u2, u3, u4, u5].drop 0).take (Try.prog.cellsOf 9)) = [y0, y1, y2, y3, y4, y5][0]? := hg 0 _ rfl
    have h1 : DataW.trod enc Try.prog w 0 (fun _ => true) true n 46 (([u0, u1, u2, u3, u4, u5].drop 1).take (Try.prog.cellsOf 46)) = [y0, y1, y2, y3, y4, y5][1]? := hg 1 _ rfl
    have h2 : DataW.trod enc Try.prog w 0 (fun _ => true) true n 3 (([u0, u1, u2, u3, u4, u5].drop 2).take (Try.prog.cellsOf 3)) = [y0, y1, y2, y3, y4, y5][2]? := hg 2 _ rfl
    have h3 : DataW.trod enc Try.prog w 0 (fun _ => true) true n 2 (([u0, u1, u2, u3, u4, u5].drop 3).take (Try.prog.cellsOf 2)) = [y0, y1, y2, y3, y4, y5][3]? := hg 3 _ rfl
    have h4 : DataW.trod enc Try.prog w 0 (fun _ => true) true n 3 (([u0, u1, u2, u3, u4, u5].drop 4).take (Try.prog.cellsOf 3)) = [y0, y1, y2, y3, y4, y5][4]? := hg 4 _ rfl
    have h5 : DataW.trod enc Try.prog w 0 (fun _ => true) true n 9 (([u0, u1, u2, u3, u4, u5].drop 5).take (Try.prog.cellsOf 9)) = [y0, y1, y2, y3, y4, y5][5]? := hg 5 _ rfl
    simp only [c9, c46, c3, c2, List.drop_zero, List.drop_succ_cons, List.take_succ_cons, List.take_zero, List.getElem?_cons_zero, List.getElem?_cons_succ] at h0 h1 h2 h3 h4 h5
    obtain ⟨a0, e0, _, g0⟩ := DataW.trod_string Try.underlying9 h0
    obtain ⟨l, ⟨A, c, e1, l1, C1⟩, g1, _⟩ := opens_slice Try.underlying46 (by kernel_rfl) (opens_string Try.underlying9) _ _ _ h1
    obtain ⟨a2, e2, _, g2⟩ := DataW.trod_int Try.underlying3 h2
    obtain ⟨a3, e3, _, g3⟩ := DataW.trod_int Try.underlying2 h3
    obtain ⟨a4, e4, _, g4⟩ := DataW.trod_int Try.underlying3 h4
    obtain ⟨a5, e5, _, g5⟩ := DataW.trod_string Try.underlying9 h5
    simp only [List.cons.injEq, and_true] at e0 e1 e2 e3 e4 e5
    subst e0; subst e1; subst e2; subst e3; subst e4; subst e5
    exact ⟨⟨a0, l, a2, a3, a4, a5⟩, k124_mk w ⟨a0, l, a2, a3, a4, a5⟩ l1 C1, ⟨g0, g1.2, g2, g3, g4, g5⟩, Nat.zero_le _⟩
end Go.Proofs.Ytjicfkmpgogppaa.Open
