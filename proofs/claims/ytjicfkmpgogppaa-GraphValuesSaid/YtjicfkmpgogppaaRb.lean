/-
  A block, a row, a world as it was, whatever was drawn or made since: one word for a chain of steps.
-/
import Derived.Test.YtjicfkmpgogppaaWd
namespace Go.Proofs.YtjicfkmpgogppaaRb
set_option linter.unusedVariables false
set_option linter.unusedSimpArgs false
open Go Go.RowKit Go.Proofs.YtjicfkmpgogppaaW.PrintWords
class Core (W' : World) (W : outParam World) : Prop where
  out : ∀ {g : Nat} {o : Obj}, W.heap[g]? = some o → W'.heap[g]? = some o
instance (priority := low) core_self (W : World) : Core W W := ⟨fun h => h⟩
instance core_drewN (W V : World) (n : Nat) [c : Core W V] : Core (W.drewN n) V := ⟨fun h => blk_drewN (c.out h) n⟩
instance core_drew (W V : World) [c : Core W V] : Core W.drew V := ⟨fun h => blk_drew (c.out h)⟩
instance core_alloc (W V : World) (o : Obj) [c : Core W V] : Core (W.alloc o) V := ⟨fun h => blk_alloc (c.out h) o⟩
theorem rb {W' W : World} [c : Core W' W] {g : Nat} {o : Obj} (h : W.heap[g]? = some o) : W'.heap[g]? = some o := c.out h
theorem core_at {W' W : World} (c : Core W' W) {k : Nat} (hk : k < W.heap.size) : W'.heap[k]? = W.heap[k]? := by
  have h : W.heap[k]? = some W.heap[k] := Array.getElem?_eq_getElem hk
  rw [h]
  exact c.out h
theorem kR {α : Type} {d : Kd α} {e base : Nat} {ok : Nat → Prop} {v : Value} {xs : List α} {W' W : World} [c : Core W' W] (h : Kd.R d e W base ok v xs) : Kd.R d e W' base ok v xs := Kd.R_step h (fun _ _ hk => core_at c hk)
theorem kN {α : Type} {d : Kd α} {e base : Nat} {ok : Nat → Prop} {v : Value} {xs : List α} {W' W : World} [c : Core W' W] (h : Kd.N d e W base ok v xs) : Kd.N d e W' base ok v xs := Kd.N_step h (fun _ _ hk => core_at c hk)
theorem bb {B : Nat} {w W : World} (h : Below B w W := by repeat (first | (with_reducible first | exact HB.out | apply below_alloc | apply pw_below_drewN | apply below_drew1 | refine below_set ?_ (Aside0.out (by assumption))) | exact HB.out)) : Below B w W := h
theorem ag {p : Prop} (h : p := by (try simp only [List.map_toArray, List.map_cons, List.map_nil]); first | done | rfl | (simp only [List.length_drop, List.length_take]; rfl)) : p := h
theorem kn {p : Prop} (h : p := by first | exact Kd.R_nil _ _ _ _ _ | exact Kd.N_nil _ _ _ _ _ | exact Kd.V_nil _ _ _ _ _ | exact Kd.Q_nil _ _ _ _ _ | exact Kd.S_nil _ _ _ _ _) : p := h
end Go.Proofs.YtjicfkmpgogppaaRb
