/-
  An argument that is an array of whole numbers: what it holds, as a list.
-/
import Derived.Test.YtelhajoedlaohaaDoorShaLaw
import Derived.Deep.Slices
import Derived.ChangeSame
import Derived.WideShapes
import Derived.ChangeArms
import Derived.OpenShut
import Derived.Carry
import Derived.RowKit
namespace Go.Proofs.YtelhajoedlaohaaDoor.Sha
set_option linter.unusedVariables false
set_option linter.unusedSimpArgs false
open Go Go.RowKit Go.ChangeShapes Go.WideShapes
theorem trod_lt2 {H : Type} {enc : TypeId × Value → H} {P : Program} {w : World} {t : TypeId} {v : Value} {dd : DataW H} {ps : List MemPlace} (h : DataW.Trod enc P w 0 (fun _ => true) true t v dd ps) : ∀ x ∈ ps, x.block < w.heap.size := by
  obtain ⟨m, hm⟩ := h
  exact DataW.trod_lt m _ _ _ hm
theorem open_arr {H : Type} {enc : TypeId × Value → H} {P : Program} {w : World} {r : Reach} {base n : Nat} {t e : TypeId} {k : IntKind} {v : Value} {d : DataW H} {p : List MemPlace} (hk : ∀ z : Int, (Lit.int k z).wf = true → 0 ≤ z)
    (ht : P.underlying t = some (.array n e)) (he : P.underlying e = some (.int k)) (hce : P.cellsOf e = 1) (hct : P.cellsOf t = n) (ho : Value.okWide P w r base t v) (h : DataW.Trod enc P w 0 (fun _ => true) true t v d p) :
    ∃ s : List Nat, v = .agg (arr k s) ∧ s.length = n ∧ ∀ x ∈ s, (Lit.int k (x : Int)).wf = true := by
  simp only [Value.okWide, ht] at ho
  obtain ⟨cs, rfl, hsz, _⟩ := ho
  rw [hct] at hsz
  obtain ⟨m, hm⟩ := h
  obtain ⟨xs, m2, _, _, hl, hxl, hi⟩ := DataW.trod_array ht hm
  have hcl : (Value.agg cs).cells.toList = cs.toList := rfl
  rw [hcl] at hi
  have hone : ∀ i (hlt : i < n), ∃ z : Int, cs.toList[i]? = some (.int k z) ∧ (Lit.int k z).wf = true := by
    intro i hlt
    have h1 := hi i hlt
    rw [hce, Nat.mul_one] at h1
    have h2 : xs[i]? = some xs[i] := List.getElem?_eq_getElem (by omega)
    rw [h2] at h1
    obtain ⟨z, hz, _, hw⟩ := DataW.trod_int he h1
    refine ⟨z, ?_, hw⟩
    have h3 : ((cs.toList.drop i).take 1)[0]? = some (.int k z) := by rw [hz]; rfl
    rw [List.getElem?_take_of_lt (by omega), List.getElem?_drop] at h3
    exact h3
  have hlen : cs.toList.length = n := by rw [Array.length_toList]; exact hsz
  refine ⟨cs.toList.map (fun v => (intOf v).toNat), ?_, by rw [List.length_map, hlen], ?_⟩
  · congr 1
    unfold arr
    rw [List.map_map]
    apply Array.ext'
    apply List.ext_getElem?
    intro i
    by_cases hlt : i < n
    · obtain ⟨z, hz, hw⟩ := hone i hlt
      have h0 := hk z hw
      rw [List.getElem?_map, hz]
      simp only [Option.map_some, Function.comp, intOf]
      rw [Int.toNat_of_nonneg h0]
    · rw [List.getElem?_eq_none (by omega), List.getElem?_eq_none (by rw [List.length_map]; omega)]
  · intro x hx
    rw [List.mem_map] at hx
    obtain ⟨v, hv, rfl⟩ := hx
    obtain ⟨i, hlt, rfl⟩ := List.mem_iff_getElem.1 hv
    obtain ⟨z, hz, hw⟩ := hone i (by omega)
    rw [List.getElem?_eq_getElem hlt] at hz
    rw [Option.some.inj hz]
    show (Lit.int k ((z.toNat : Nat) : Int)).wf = true
    rw [Int.toNat_of_nonneg (hk z hw)]
    exact hw
theorem wf_u32_lt (x : Nat) (h : (Lit.int .u32 (x : Int)).wf = true) : x < 4294967296 := by
  simp [Lit.wf, IntKind.min, IntKind.max, IntKind.signed, IntKind.bits] at h; omega
theorem wf_u8_lt (x : Nat) (h : (Lit.int .u8 (x : Int)).wf = true) : x < 256 := by
  simp [Lit.wf, IntKind.min, IntKind.max, IntKind.signed, IntKind.bits] at h; omega
theorem wf_u32_nn (z : Int) (h : (Lit.int .u32 z).wf = true) : 0 ≤ z := by
  simp [Lit.wf, IntKind.min, IntKind.max, IntKind.signed, IntKind.bits] at h; omega
theorem wf_u8_nn (z : Int) (h : (Lit.int .u8 z).wf = true) : 0 ≤ z := by
  simp [Lit.wf, IntKind.min, IntKind.max, IntKind.signed, IntKind.bits] at h; omega
end Go.Proofs.YtelhajoedlaohaaDoor.Sha
