/-
  A block as it was, whatever was drawn or made since: one word for a chain of steps.
-/
import Derived.Test.YtjicfkmpgogppaaWd
namespace Go.Proofs.YtjicfkmpgogppaaRb
set_option linter.unusedVariables false
set_option linter.unusedSimpArgs false
open Go Go.Proofs.YtjicfkmpgogppaaW.PrintWords
class Core (W' : World) (W : outParam World) : Prop where
  out : ∀ {g : Nat} {o : Obj}, W.heap[g]? = some o → W'.heap[g]? = some o
instance (priority := low) core_self (W : World) : Core W W := ⟨fun h => h⟩
instance core_drewN (W V : World) (n : Nat) [c : Core W V] : Core (W.drewN n) V := ⟨fun h => blk_drewN (c.out h) n⟩
instance core_drew (W V : World) [c : Core W V] : Core W.drew V := ⟨fun h => blk_drew (c.out h)⟩
instance core_alloc (W V : World) (o : Obj) [c : Core W V] : Core (W.alloc o) V := ⟨fun h => blk_alloc (c.out h) o⟩
theorem rb {W' W : World} [c : Core W' W] {g : Nat} {o : Obj} (h : W.heap[g]? = some o) : W'.heap[g]? = some o := c.out h
end Go.Proofs.YtjicfkmpgogppaaRb
