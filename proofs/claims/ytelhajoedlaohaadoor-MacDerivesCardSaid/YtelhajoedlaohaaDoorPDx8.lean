-- printed by a program of this session out of the translation; see NOTES.md
import Derived.Test.YtelhajoedlaohaaDoorPDx0
import Derived.Test.YtelhajoedlaohaaDoorMacA
namespace Go.Proofs.YtelhajoedlaohaaDoor.PD
open Go.RowKit Go.Proofs.YtelhajoedlaohaaDoorW.PrintWords Go.Proofs.YtelhajoedlaohaaDoorW.PrintLast Go.Proofs.YtelhajoedlaohaaDoorW.PrintMore
attribute [local go_sem] max2_int min2_int max_two min_two max_three min_three max_four min_four   -- for this text's walks alone
set_option linter.unusedVariables false
set_option linter.unusedSimpArgs false

/-! ### mac_Tag: function 24 -/
def mac_Tag.f (a0 : ByteArray) (a1 : ByteArray) : Option (ByteArray) := if a0.size ≤ 281474976710000 ∧ a1.size ≤ 281474976710000 then some (Sha.tagK a0 a1) else none
theorem mac_Tag.calls (a0 : ByteArray) (a1 : ByteArray) (r : ByteArray) (w : World) (h : mac_Tag.f a0 a1 = some r) (HTab : Aside0 (Sha.Tab w) := by first | exact HTab | exact Aside0.mk (HTab.out.step (by repeat (first | (with_reducible first | exact HB.out | apply below_alloc | apply pw_below_drewN | apply below_drew1) | exact HB.out)))) :
    Calls Tryd.prog 24 #[.string a0, .string a1] w fun e w' => e = .returned (.string r) ∧ Below w.heap.size w w' := by
  unfold mac_Tag.f at h
  split at h
  · rename_i hc
    obtain rfl := Option.some.inj h
    exact Sha.tag_walk a0 a1 w HTab.out hc.1 hc.2
  · cases h

end Go.Proofs.YtelhajoedlaohaaDoor.PD
