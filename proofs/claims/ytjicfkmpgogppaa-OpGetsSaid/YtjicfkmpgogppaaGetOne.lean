/-
  pack.Get by the plain reader.
-/
import Derived.Test.YtjicfkmpgogppaaPOx12
import Derived.Test.YtjicfkmpgogppaaVp
namespace Go.Proofs.Ytjicfkmpgogppaa.Rr
set_option linter.unusedVariables false
set_option linter.unusedSimpArgs false
open Go Go.RowKit Go.Proofs.Ytjicfkmpgogppaa.Plain Go.Proofs.Ytjicfkmpgogppaa.Vr Go.Proofs.Ytjicfkmpgogppaa.PO Go.Proofs.YtjicfkmpgogppaaW.PrintWords Go.Proofs.YtjicfkmpgogppaaW.PrintLast Go.Proofs.YtjicfkmpgogppaaW.PrintMore
theorem get_one (s : ByteArray) (hs : s.size ≤ 140737488351232 * 4) (e : Int) (x : Vs.V) (q : Int) (h : valR mkV noV 20 s 0 0 = some (e, x, q)) : pack_Get.f s = if e = 0 then (if q < (s.size : Int) then some (0, 0, ⟨#[]⟩, [], 4) else some (x.f0, x.f1, x.f2, x.f3, 0)) else some (0, 0, ⟨#[]⟩, [], e) := by
  unfold pack_Get.f
  rw [if_pos hs]
  exact (congrArg (fun t => Option.bind t _) h).trans rfl
end Go.Proofs.Ytjicfkmpgogppaa.Rr
