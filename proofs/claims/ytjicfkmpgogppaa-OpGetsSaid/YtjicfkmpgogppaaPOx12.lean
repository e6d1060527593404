-- printed by a program of this session out of the translation; see NOTES.md
import Derived.Test.YtjicfkmpgogppaaPOx0
import Derived.Test.YtjicfkmpgogppaaPackGet
namespace Go.Proofs.Ytjicfkmpgogppaa.PO
open Go.RowKit Go.Proofs.YtjicfkmpgogppaaW.PrintWords Go.Proofs.YtjicfkmpgogppaaW.PrintLast Go.Proofs.YtjicfkmpgogppaaW.PrintMore
attribute [local go_sem] max2_int min2_int max_two min_two max_three min_three max_four min_four   -- for this text's walks alone
set_option linter.unusedVariables false
set_option linter.unusedSimpArgs false

/-! ### pack_Get: function 75 -/
open Vr Rd in
def pack_Get.f (a0 : ByteArray) : Option (Int × Int × ByteArray × (List (S54)) × Int) := if a0.size ≤ 140737488351232 * 4 then (valR Rd.mkV Rd.noV 20 a0 0 0).bind fun r => if r.1 = 0 then (if r.2.2 < (a0.size : Int) then some (0, 0, ⟨#[]⟩, [], 4) else some (r.2.1.f0, r.2.1.f1, r.2.1.f2, r.2.1.f3, 0)) else some (0, 0, ⟨#[]⟩, [], r.1) else none
open Vr Rd in
theorem pack_Get.calls (a0 : ByteArray) (r1 : Int) (r2 : Int) (r3 : ByteArray) (r4 : List (S54)) (r5 : Int) (w : World) (h : pack_Get.f a0 = some (r1, r2, r3, r4, r5)) :
  Calls Try.prog 75 #[.string a0] w fun e w' => ∃ v3_ : Value, e = .returned (.tuple #[.agg #[.int .i64 r1, .int .i64 r2, .string r3, v3_], .int .i64 r5]) ∧ Kd.R k54 54 w' w.heap.size (fun _ => True) v3_ r4 ∧ Below w.heap.size w w' := by
 unfold pack_Get.f at h
 by_cases hs : a0.size ≤ 140737488351232 * 4
 ·rw [if_pos hs] at h
  obtain ⟨⟨e, x, q⟩, hx, h⟩ := Option.bind_eq_some_iff.mp h
  have g := value_good hs 20 0 0 _ (by omega) (by omega) (by omega) (by omega) hx
  dsimp only at h
  by_cases c : e = 0
  ·rw [if_pos c] at h
   obtain ⟨_, _, K, hK⟩ := g.1 c
   by_cases c2 : q < (a0.size : Int)
   ·rw [if_pos c2] at h
    simp only [Option.some.injEq, Prod.mk.injEq] at h
    obtain ⟨rfl, rfl, rfl, rfl, rfl⟩ := h
    exact (get_more a0 K x q w hK c2).mono (fun e w' he => ⟨_, he.1, Kd.R_nil _ _ _ _ _, he.2⟩)
   ·rw [if_neg c2] at h
    simp only [Option.some.injEq, Prod.mk.injEq] at h
    obtain ⟨rfl, rfl, rfl, rfl, rfl⟩ := h
    exact get_ok a0 K x q w hK c2
  ·rw [if_neg c] at h
   simp only [Option.some.injEq, Prod.mk.injEq] at h
   obtain ⟨rfl, rfl, rfl, rfl, rfl⟩ := h
   exact (get_bad a0 e w (g.2 c)).mono (fun e w' he => ⟨_, he.1, Kd.R_nil _ _ _ _ _, he.2⟩)
 ·rw [if_neg hs] at h; cases h

end Go.Proofs.Ytjicfkmpgogppaa.PO
