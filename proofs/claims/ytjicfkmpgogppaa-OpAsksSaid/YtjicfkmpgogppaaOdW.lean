/-
  op.Read: its deferred closure, and its results.
-/
import Derived.Test.YtjicfkmpgogppaaOfW
import Derived.Tactics
import Derived.Tactics2
import Derived.Defers
import Derived.Laws.Pointers
namespace Go.Proofs.Ytjicfkmpgogppaa.Or
set_option linter.unusedVariables false
set_option linter.unusedSimpArgs false
open Go Go.RowKit Go.Proofs.Ytjicfkmpgogppaa.Vs Go.Proofs.Ytjicfkmpgogppaa.PA Go.Proofs.YtjicfkmpgogppaaW.PrintWords Go.Proofs.YtjicfkmpgogppaaW.PrintLast Go.Proofs.YtjicfkmpgogppaaW.PrintMore
def set12 (w : World) (g : Nat) (a0 a1 a2 a3 a4 a5 a6 a7 a8 a9 a10 a11 : Value) : World := ((((((((((((w.setCell ⟨g, 0, none⟩ a0).setCell ⟨g, 1, none⟩ a1).setCell ⟨g, 2, none⟩ a2).setCell ⟨g, 3, none⟩ a3).setCell ⟨g, 4, none⟩ a4).setCell ⟨g, 5, none⟩ a5).setCell ⟨g, 6, none⟩ a6).setCell ⟨g, 7, none⟩ a7).setCell ⟨g, 8, none⟩ a8).setCell ⟨g, 9, none⟩ a9).setCell ⟨g, 10, none⟩ a10).setCell ⟨g, 11, none⟩ a11)
theorem set12_v {w : World} {g t : Nat} {x0 x1 x2 x3 x4 x5 x6 x7 x8 x9 x10 x11 : Value} (h : w.heap[g]? = some (.cells #[x0, x1, x2, x3, x4, x5, x6, x7, x8, x9, x10, x11] t (0, 0))) (a0 a1 a2 a3 a4 a5 a6 a7 a8 a9 a10 a11 : Value) : (set12 w g a0 a1 a2 a3 a4 a5 a6 a7 a8 a9 a10 a11).heap[g]? = some (.cells #[a0, a1, a2, a3, a4, a5, a6, a7, a8, a9, a10, a11] t (0, 0)) := by
  unfold set12
  refine blk_put (cs := #[a0, a1, a2, a3, a4, a5, a6, a7, a8, a9, a10, x11]) ?_ 11 _ rfl
  refine blk_put (cs := #[a0, a1, a2, a3, a4, a5, a6, a7, a8, a9, x10, x11]) ?_ 10 _ rfl
  refine blk_put (cs := #[a0, a1, a2, a3, a4, a5, a6, a7, a8, x9, x10, x11]) ?_ 9 _ rfl
  refine blk_put (cs := #[a0, a1, a2, a3, a4, a5, a6, a7, x8, x9, x10, x11]) ?_ 8 _ rfl
  refine blk_put (cs := #[a0, a1, a2, a3, a4, a5, a6, x7, x8, x9, x10, x11]) ?_ 7 _ rfl
  refine blk_put (cs := #[a0, a1, a2, a3, a4, a5, x6, x7, x8, x9, x10, x11]) ?_ 6 _ rfl
  refine blk_put (cs := #[a0, a1, a2, a3, a4, x5, x6, x7, x8, x9, x10, x11]) ?_ 5 _ rfl
  refine blk_put (cs := #[a0, a1, a2, a3, x4, x5, x6, x7, x8, x9, x10, x11]) ?_ 4 _ rfl
  refine blk_put (cs := #[a0, a1, a2, x3, x4, x5, x6, x7, x8, x9, x10, x11]) ?_ 3 _ rfl
  refine blk_put (cs := #[a0, a1, x2, x3, x4, x5, x6, x7, x8, x9, x10, x11]) ?_ 2 _ rfl
  refine blk_put (cs := #[a0, x1, x2, x3, x4, x5, x6, x7, x8, x9, x10, x11]) ?_ 1 _ rfl
  refine blk_put (cs := #[x0, x1, x2, x3, x4, x5, x6, x7, x8, x9, x10, x11]) ?_ 0 _ rfl
  exact h
theorem set12_o {w : World} {g k : Nat} (hn : k ≠ g) (a0 a1 a2 a3 a4 a5 a6 a7 a8 a9 a10 a11 : Value) : (set12 w g a0 a1 a2 a3 a4 a5 a6 a7 a8 a9 a10 a11).heap[k]? = w.heap[k]? := by
  unfold set12
  rw [Below.heap_setCell _ _ _ _ hn, Below.heap_setCell _ _ _ _ hn, Below.heap_setCell _ _ _ _ hn, Below.heap_setCell _ _ _ _ hn, Below.heap_setCell _ _ _ _ hn, Below.heap_setCell _ _ _ _ hn, Below.heap_setCell _ _ _ _ hn, Below.heap_setCell _ _ _ _ hn, Below.heap_setCell _ _ _ _ hn, Below.heap_setCell _ _ _ _ hn, Below.heap_setCell _ _ _ _ hn, Below.heap_setCell _ _ _ _ hn]
theorem set12_below {B g : Nat} {u w : World} (h : Below B u w) (hb : B ≤ g) (a0 a1 a2 a3 a4 a5 a6 a7 a8 a9 a10 a11 : Value) : Below B u (set12 w g a0 a1 a2 a3 a4 a5 a6 a7 a8 a9 a10 a11) := by
  unfold set12
  exact ((((((((((((h.setCell (p := ⟨g, 0, none⟩) hb a0).setCell (p := ⟨g, 1, none⟩) hb a1).setCell (p := ⟨g, 2, none⟩) hb a2).setCell (p := ⟨g, 3, none⟩) hb a3).setCell (p := ⟨g, 4, none⟩) hb a4).setCell (p := ⟨g, 5, none⟩) hb a5).setCell (p := ⟨g, 6, none⟩) hb a6).setCell (p := ⟨g, 7, none⟩) hb a7).setCell (p := ⟨g, 8, none⟩) hb a8).setCell (p := ⟨g, 9, none⟩) hb a9).setCell (p := ⟨g, 10, none⟩) hb a10).setCell (p := ⟨g, 11, none⟩) hb a11)
set_option maxHeartbeats 8000000 in
set_option maxRecDepth 100000 in
theorem catch_idle (p q : Addr) (w : World) :
    CallsD Try.prog 80 #[.pointer (some p), .pointer (some q)] .returning w fun e u' w' => e = .returned (.tuple #[]) ∧ u' = .returning ∧ w' = w := by
  have hta : ∀ w, Sem.run Try.prog (Instr.typeAssert .nilIface 20 157 true) w = .ok (.tuple #[.int .i64 0, .bool false]) w := fun w => rfl
  refine callsD_of_wpS Try.func80 rfl fun c₀ cs hu => ?_
  apply wpS_seq
  apply wpS_region
  simp [wpOpsS, go_sem, recoverD, hu, hta, Try.ntmps80, Exit.thenS]
  apply wpS_seq
  apply wpS_region
  simp [wpOpsS, go_sem, Try.ntmps80, Exit.thenS]
  refine wpS_cond (t := false) (by simp [Act.eval, Array.replicate]) ?_
  simp only [Bool.false_eq_true, if_false]
  refine wpS_of_wp (wp_skip ?_)
  cases c₀
  simp_all [bodyPostS, results, Try.results80]
set_option maxHeartbeats 8000000 in
set_option maxRecDepth 100000 in
theorem catch_panicking (bv be : Nat) (c y0 : Int) (x0 x1 x2 x3 x4 x5 x6 x7 x8 x9 x10 x11 : Value) (w : World) (hv : w.heap[bv]? = some (.cells #[x0, x1, x2, x3, x4, x5, x6, x7, x8, x9, x10, x11] 107 (0, 0))) (he : w.heap[be]? = some (.cells #[.int .i64 y0] 33 (0, 0))) :
    CallsD Try.prog 80 #[.pointer (some ⟨bv, 0, none⟩), .pointer (some ⟨be, 0, none⟩)] (.panicking [fault c]) w fun e u' w' =>
      e = .returned (.tuple #[]) ∧ u' = .panicking [{ v := (fault c).v, recovered := true }] ∧ w' = (set12 w bv (.int .i64 0) (.int .i64 0) (.int .i64 0) (.int .i64 0) (.bool false) (.int .i64 0) (.int .i64 0) (.int .i64 0) (.int .i64 0) (.string ⟨#[]⟩) (.string ⟨#[]⟩) (.slice none 0 0)).setCell ⟨be, 0, none⟩ (.int .i64 c) := by
  have hta : ∀ w, Sem.run Try.prog (Instr.typeAssert (.iface 157 (.int .i64 c)) 20 157 true) w = .ok (.tuple #[.int .i64 c, .bool true]) w := fun w => rfl
  have hne : bv ≠ be := blk_ne hv he (by decide)
  have c0 : w.cell? ⟨bv, 0, none⟩ = some x0 := (blk_cell hv 0).trans rfl
  have f0 := blk_frozen hv 0
  have c1 : w.cell? ⟨bv, 1, none⟩ = some x1 := (blk_cell hv 1).trans rfl
  have f1 := blk_frozen hv 1
  have c2 : w.cell? ⟨bv, 2, none⟩ = some x2 := (blk_cell hv 2).trans rfl
  have f2 := blk_frozen hv 2
  have c3 : w.cell? ⟨bv, 3, none⟩ = some x3 := (blk_cell hv 3).trans rfl
  have f3 := blk_frozen hv 3
  have c4 : w.cell? ⟨bv, 4, none⟩ = some x4 := (blk_cell hv 4).trans rfl
  have f4 := blk_frozen hv 4
  have c5 : w.cell? ⟨bv, 5, none⟩ = some x5 := (blk_cell hv 5).trans rfl
  have f5 := blk_frozen hv 5
  have c6 : w.cell? ⟨bv, 6, none⟩ = some x6 := (blk_cell hv 6).trans rfl
  have f6 := blk_frozen hv 6
  have c7 : w.cell? ⟨bv, 7, none⟩ = some x7 := (blk_cell hv 7).trans rfl
  have f7 := blk_frozen hv 7
  have c8 : w.cell? ⟨bv, 8, none⟩ = some x8 := (blk_cell hv 8).trans rfl
  have f8 := blk_frozen hv 8
  have c9 : w.cell? ⟨bv, 9, none⟩ = some x9 := (blk_cell hv 9).trans rfl
  have f9 := blk_frozen hv 9
  have c10 : w.cell? ⟨bv, 10, none⟩ = some x10 := (blk_cell hv 10).trans rfl
  have f10 := blk_frozen hv 10
  have c11 : w.cell? ⟨bv, 11, none⟩ = some x11 := (blk_cell hv 11).trans rfl
  have f11 := blk_frozen hv 11
  have c12 : w.cell? ⟨be, 0, none⟩ = some (.int .i64 y0) := (blk_cell he 0).trans rfl
  have f12 := blk_frozen he 0
  refine callsD_of_wpS Try.func80 rfl fun c₀ cs hu => ?_
  apply wpS_seq
  apply wpS_region
  simp [wpOpsS, go_sem, recoverD, hu, hta, Try.ntmps80, Exit.thenS]
  apply wpS_seq
  apply wpS_region
  simp [wpOpsS, go_sem, Try.ntmps80, Exit.thenS]
  refine wpS_cond (t := true) (by simp [Act.eval, Array.replicate]) ?_
  simp only [if_true]
  have hua := Try.underlying107
  apply wpS_region
  simp [wpOpsS, go_sem, c0, f0, c1, f1, c2, f2, c3, f3, c4, f4, c5, f5, c6, f6, c7, f7, c8, f8, c9, f9, c10, f10, c11, f11, c12, f12, hne, hne.symm, bodyPostS, results, Try.results80, set12]
set_option maxHeartbeats 8000000 in
set_option maxRecDepth 100000 in
theorem read_results (bv be : Nat) (tmps : Array Value) (W : World) (y0 : Int) (x0 x1 x2 x3 x4 x5 x6 x7 x8 x9 x10 x11 : Value) (h4 : tmps.getD 4 undef = .pointer (some ⟨bv, 0, none⟩)) (h5 : tmps.getD 5 undef = .pointer (some ⟨be, 0, none⟩)) (hv : W.heap[bv]? = some (.cells #[x0, x1, x2, x3, x4, x5, x6, x7, x8, x9, x10, x11] 107 (0, 0))) (he : W.heap[be]? = some (.cells #[.int .i64 y0] 33 (0, 0))) :
    (results Try.f44 tmps).run Try.prog W = .ok (.tuple #[.agg #[x0, x1, x2, x3, x4, x5, x6, x7, x8, x9, x10, x11], .int .i64 y0]) W := by
  have c0 : W.cell? ⟨bv, 0, none⟩ = some x0 := (blk_cell hv 0).trans rfl
  have f0 := blk_frozen hv 0
  have c1 : W.cell? ⟨bv, 1, none⟩ = some x1 := (blk_cell hv 1).trans rfl
  have f1 := blk_frozen hv 1
  have c2 : W.cell? ⟨bv, 2, none⟩ = some x2 := (blk_cell hv 2).trans rfl
  have f2 := blk_frozen hv 2
  have c3 : W.cell? ⟨bv, 3, none⟩ = some x3 := (blk_cell hv 3).trans rfl
  have f3 := blk_frozen hv 3
  have c4 : W.cell? ⟨bv, 4, none⟩ = some x4 := (blk_cell hv 4).trans rfl
  have f4 := blk_frozen hv 4
  have c5 : W.cell? ⟨bv, 5, none⟩ = some x5 := (blk_cell hv 5).trans rfl
  have f5 := blk_frozen hv 5
  have c6 : W.cell? ⟨bv, 6, none⟩ = some x6 := (blk_cell hv 6).trans rfl
  have f6 := blk_frozen hv 6
  have c7 : W.cell? ⟨bv, 7, none⟩ = some x7 := (blk_cell hv 7).trans rfl
  have f7 := blk_frozen hv 7
  have c8 : W.cell? ⟨bv, 8, none⟩ = some x8 := (blk_cell hv 8).trans rfl
  have f8 := blk_frozen hv 8
  have c9 : W.cell? ⟨bv, 9, none⟩ = some x9 := (blk_cell hv 9).trans rfl
  have f9 := blk_frozen hv 9
  have c10 : W.cell? ⟨bv, 10, none⟩ = some x10 := (blk_cell hv 10).trans rfl
  have f10 := blk_frozen hv 10
  have c11 : W.cell? ⟨bv, 11, none⟩ = some x11 := (blk_cell hv 11).trans rfl
  have f11 := blk_frozen hv 11
  have c12 : W.cell? ⟨be, 0, none⟩ = some (.int .i64 y0) := (blk_cell he 0).trans rfl
  have f12 := blk_frozen he 0
  have hu := Try.underlying107
  have h4' := h4
  have h5' := h5
  rw [Array.getD_eq_getD_getElem?] at h4' h5'
  simp [results, Try.results44, go_sem, h4', h5', c0, c1, c2, c3, c4, c5, c6, c7, c8, c9, c10, c11, c12]
theorem door_idle (bv be : Nat) (tmps : Array Value) (W : World) (y0 : Int) (x0 x1 x2 x3 x4 x5 x6 x7 x8 x9 x10 x11 : Value) (R : Ending → World → Prop)
    (h4 : tmps.getD 4 undef = .pointer (some ⟨bv, 0, none⟩)) (h5 : tmps.getD 5 undef = .pointer (some ⟨be, 0, none⟩)) (hv : W.heap[bv]? = some (.cells #[x0, x1, x2, x3, x4, x5, x6, x7, x8, x9, x10, x11] 107 (0, 0))) (he : W.heap[be]? = some (.cells #[.int .i64 y0] 33 (0, 0)))
    (hR : R (.returned (.tuple #[.agg #[x0, x1, x2, x3, x4, x5, x6, x7, x8, x9, x10, x11], .int .i64 y0])) W) :
    bodyPostD Try.prog Try.f44 R Exit.ret { tmps := tmps, defers := [{ target := .fn (.func 80) #[.pointer (some ⟨bv, 0, none⟩), .pointer (some ⟨be, 0, none⟩)], args := #[] }] } W := by
  refine leaves_cons (f := 80) (args := #[.pointer (some ⟨bv, 0, none⟩), .pointer (some ⟨be, 0, none⟩)]) (by simp) (by simp [go_sem]) ?_
  refine (catch_idle _ _ _).mono ?_
  rintro e u' w'' ⟨rfl, rfl, rfl⟩
  exact ⟨_, read_results bv be tmps _ y0 x0 x1 x2 x3 x4 x5 x6 x7 x8 x9 x10 x11 h4 h5 hv he, hR⟩
theorem door_caught (bv be : Nat) (tmps : Array Value) (W : World) (c y0 : Int) (x0 x1 x2 x3 x4 x5 x6 x7 x8 x9 x10 x11 : Value) (R : Ending → World → Prop)
    (h4 : tmps.getD 4 undef = .pointer (some ⟨bv, 0, none⟩)) (h5 : tmps.getD 5 undef = .pointer (some ⟨be, 0, none⟩)) (hv : W.heap[bv]? = some (.cells #[x0, x1, x2, x3, x4, x5, x6, x7, x8, x9, x10, x11] 107 (0, 0))) (he : W.heap[be]? = some (.cells #[.int .i64 y0] 33 (0, 0)))
    (hR : R (.returned (.tuple #[.agg #[.int .i64 0, .int .i64 0, .int .i64 0, .int .i64 0, .bool false, .int .i64 0, .int .i64 0, .int .i64 0, .int .i64 0, .string ⟨#[]⟩, .string ⟨#[]⟩, .slice none 0 0], .int .i64 c])) ((set12 W bv (.int .i64 0) (.int .i64 0) (.int .i64 0) (.int .i64 0) (.bool false) (.int .i64 0) (.int .i64 0) (.int .i64 0) (.int .i64 0) (.string ⟨#[]⟩) (.string ⟨#[]⟩) (.slice none 0 0)).setCell ⟨be, 0, none⟩ (.int .i64 c))) :
    bodyPostD Try.prog Try.f44 R (Exit.panic [fault c]) { tmps := tmps, defers := [{ target := .fn (.func 80) #[.pointer (some ⟨bv, 0, none⟩), .pointer (some ⟨be, 0, none⟩)], args := #[] }] } W := by
  have hne : bv ≠ be := blk_ne hv he (by decide)
  refine leaves_cons (f := 80) (args := #[.pointer (some ⟨bv, 0, none⟩), .pointer (some ⟨be, 0, none⟩)]) (by simp) (by simp [go_sem]) ?_
  refine (catch_panicking bv be c y0 x0 x1 x2 x3 x4 x5 x6 x7 x8 x9 x10 x11 W hv he).mono ?_
  rintro e u' w'' ⟨rfl, rfl, rfl⟩
  have hv' := set12_v hv (.int .i64 0) (.int .i64 0) (.int .i64 0) (.int .i64 0) (.bool false) (.int .i64 0) (.int .i64 0) (.int .i64 0) (.int .i64 0) (.string ⟨#[]⟩) (.string ⟨#[]⟩) (.slice none 0 0)
  have he' : (set12 W bv (.int .i64 0) (.int .i64 0) (.int .i64 0) (.int .i64 0) (.bool false) (.int .i64 0) (.int .i64 0) (.int .i64 0) (.int .i64 0) (.string ⟨#[]⟩) (.string ⟨#[]⟩) (.slice none 0 0)).heap[be]? = _ := (set12_o hne.symm _ _ _ _ _ _ _ _ _ _ _ _).trans he
  exact ⟨_, read_results bv be tmps _ c (.int .i64 0) (.int .i64 0) (.int .i64 0) (.int .i64 0) (.bool false) (.int .i64 0) (.int .i64 0) (.int .i64 0) (.int .i64 0) (.string ⟨#[]⟩) (.string ⟨#[]⟩) (.slice none 0 0) h4 h5 (blk_far hv' hne _) (blk_put he' 0 _ rfl), hR⟩
end Go.Proofs.Ytjicfkmpgogppaa.Or
