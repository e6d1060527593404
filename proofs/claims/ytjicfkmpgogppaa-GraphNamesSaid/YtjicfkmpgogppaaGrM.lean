/-
  The document's Masks; the laws GraphChecks and GraphMasks, plain.
-/
import Derived.Test.YtjicfkmpgogppaaGrB
import Derived.Test.YtjicfkmpgogppaaFlows
import Derived.Test.YtjicfkmpgogppaaPGx18
import Derived.Test.YtjicfkmpgogppaaPGx20
namespace Go.Proofs.Ytjicfkmpgogppaa.Gr
set_option linter.unusedVariables false
set_option linter.unusedSimpArgs false
open Go Go.RowKit Go.Proofs.Ytjicfkmpgogppaa.Plain Go.Proofs.Ytjicfkmpgogppaa.PG Go.Proofs.YtjicfkmpgogppaaW.PrintWords Go.Proofs.YtjicfkmpgogppaaW.PrintLast Go.Proofs.YtjicfkmpgogppaaW.PrintMore
/-- bits as their sum -/
def bs (f : Nat → Bool) : Nat → Nat
  | 0 => 0
  | k + 1 => bs f k + (if f k then 2 ^ k else 0)
theorem bs_lt (f : Nat → Bool) : ∀ k, bs f k < 2 ^ k
  | 0 => by simp [bs]
  | k + 1 => by
    have h := bs_lt f k
    have e : (2 : Nat) ^ (k + 1) = 2 ^ k + 2 ^ k := by rw [Nat.pow_succ]; omega
    unfold bs
    split <;> omega
theorem bs_bit (f : Nat → Bool) : ∀ k j, j < k → (bs f k).testBit j = f j
  | 0, j, h => by omega
  | k + 1, j, h => by
    have hl := bs_lt f k
    unfold bs
    cases hf : f k with
    | false =>
      simp only [Bool.false_eq_true, if_false, Nat.add_zero]
      by_cases c : j = k
      · rw [c, hf]; exact Nat.testBit_lt_two_pow hl
      · exact bs_bit f k j (by omega)
    | true =>
      simp only [if_true]
      have e : bs f k + 2 ^ k = 2 ^ k * 1 ||| bs f k := by rw [← Nat.two_pow_add_eq_or_of_lt hl]; omega
      rw [e, Nat.mul_one, Nat.testBit_or, Nat.testBit_two_pow]
      by_cases c : j = k
      · rw [c, hf]; simp
      · rw [decide_eq_false (by omega), Bool.false_or]
        exact bs_bit f k j (by omega)
theorem bs_msk {l : List A_} (hu : Uniq l) (i : Nat) : bs (adj l i) l.length = msk l i := by
  have h1 := bs_lt (adj l i) l.length
  have h2 : msk l i < 2 ^ l.length := mk_lt l (nd l i).f1 0 (Nat.pow_pos (by decide))
  refine Nat.eq_of_testBit_eq fun j => ?_
  rcases Nat.lt_or_ge j l.length with c | c
  · rw [bs_bit _ _ _ c]
    exact (mk_adj hu i j c).symm
  · have hp : (2 : Nat) ^ l.length ≤ 2 ^ j := Nat.pow_le_pow_right (by decide) c
    rw [Nat.testBit_lt_two_pow (by omega), Nat.testBit_lt_two_pow (by omega)]
section
variable (l : List A_) (nm : ByteArray) (hl : l.length ≤ 12) (M : Nat) (hM : ∀ i, i < l.length → (nd l i).f1.length + 1 ≤ M) (hM2 : M ≤ 9223372036854775806)
include hl hM hM2
theorem rmasks_l1 (i : Nat) (hi : i < l.length) (acc : List Int) (ha : acc.length < 35184372088832) : ∀ (d k : Nat), k + d = l.length → ∀ K, M ≤ K → precinctref12_Masks.l1 (K + d + 1) acc i ((bs (adj l i) k : Nat) : Int) ((2 ^ k : Nat) : Int) k nm (l.map cB) = precinctref12_Masks.l0 K (acc ++ [((bs (adj l i) l.length : Nat) : Int)]) ((i : Int) + 1) nm (l.map cB)
  | 0, k, h, K, hK => by
    obtain rfl : k = l.length := by omega
    rw [precinctref12_Masks.l1, List.length_map, if_neg (by omega), if_pos ha, w64 (by omega) (by omega)]
  | d + 1, k, h, K, hK => by
    have hd := hM i hi
    have e1' : wrap64 ((k : Int) + 1) = ((k + 1 : Nat) : Int) := by rw [w64 (by omega) (by omega)]; rfl
    have h1 := bs_lt (adj l i) k
    have hp : (2 : Nat) ^ k ≤ 2 ^ 12 := Nat.pow_le_pow_right (by decide) (by omega)
    have e2 : (2 : Nat) ^ (k + 1) = 2 * 2 ^ k := by rw [Nat.pow_succ]; omega
    have e3 : (2 * ((2 ^ k : Nat) : Int)) % 4294967296 = ((2 ^ (k + 1) : Nat) : Int) := by
      rw [e2]
      generalize (2 : Nat) ^ k = q at hp
      omega
    have hb : bs (adj l i) (k + 1) = bs (adj l i) k + (if adj l i k then 2 ^ k else 0) := rfl
    rw [show K + (d + 1) + 1 = (K + d + 1) + 1 by omega, precinctref12_Masks.l1, List.length_map, if_pos (by omega), rwaits_some l nm i k hi (by omega) (by omega) _ (by omega), Option.bind_some]
    have ih := rmasks_l1 i hi acc ha d (k + 1) (by omega) K hK
    cases c : adj l i k with
    | true =>
      rw [c, if_pos rfl] at hb
      have e4 : (((bs (adj l i) k : Nat) : Int) + ((2 ^ k : Nat) : Int)) % 4294967296 = ((bs (adj l i) (k + 1) : Nat) : Int) := by
        rw [hb]
        generalize (2 : Nat) ^ k = q at hp h1
        omega
      rw [if_pos rfl, e3, e4, e1']
      exact ih
    | false =>
      rw [c, if_neg (by decide), Nat.add_zero] at hb
      rw [hb] at ih
      rw [if_neg (by decide), e3, e1']
      exact ih
theorem rmasks_l0 : ∀ (d i : Nat), i + d = l.length → ∃ K0, ∀ K, K0 ≤ K → precinctref12_Masks.l0 K (ints ((List.range i).map fun i => bs (adj l i) l.length)) i nm (l.map cB) = some (ints ((List.range l.length).map fun i => bs (adj l i) l.length))
  | 0, i, h => by
    obtain rfl : i = l.length := by omega
    refine ⟨1, fun K hK => ?_⟩
    obtain ⟨K, rfl⟩ : ∃ m, K = m + 1 := ⟨K - 1, by omega⟩
    rw [precinctref12_Masks.l0, List.length_map, if_neg (by omega)]
  | d + 1, i, h => by
    obtain ⟨K0, h0⟩ := rmasks_l0 d (i + 1) (by omega)
    refine ⟨K0 + M + l.length + 2, fun K hK => ?_⟩
    obtain ⟨K, rfl⟩ : ∃ m, K = m + l.length + 1 + 1 := ⟨K - l.length - 2, by omega⟩
    have h1 := rmasks_l1 l nm hl M hM hM2 i (by omega) (ints ((List.range i).map fun i => bs (adj l i) l.length)) (by rw [ints_length]; simp; omega) l.length 0 (by omega) K (by omega)
    have e : ints ((List.range i).map fun i => bs (adj l i) l.length) ++ [((bs (adj l i) l.length : Nat) : Int)] = ints ((List.range (i + 1)).map fun i => bs (adj l i) l.length) := by
      unfold ints; rw [List.range_succ, List.map_append, List.map_append]; rfl
    rw [e] at h1
    rw [precinctref12_Masks.l0, List.length_map, if_pos (by omega)]
    exact h1.trans (h0 K (by omega))
end
theorem rmasks_some (nm : ByteArray) {l : List A_} (hu : Uniq l) (hl : l.length ≤ 12) (M : Nat) (hM : ∀ i, i < l.length → (nd l i).f1.length + 1 ≤ M) (hM2 : M ≤ 9223372036854775806) : ∃ K0, ∀ K, K0 ≤ K → precinctref12_Masks.f K nm (l.map cB) = some (ints ((List.range l.length).map (msk l))) := by
  obtain ⟨K0, h0⟩ := rmasks_l0 l nm hl M hM hM2 l.length 0 (by omega)
  refine ⟨K0, fun K hK => ?_⟩
  have e : ((List.range l.length).map fun i => bs (adj l i) l.length) = (List.range l.length).map (msk l) := List.map_congr_left fun i _ => bs_msk hu i
  rw [← e]
  unfold precinctref12_Masks.f
  exact h0 K hK
theorem scan_ne {e : Nat → Int} : ∀ (d i : Nat) {j : Nat} {x : Int}, scan e d i = some (j, x) → x ≠ 0
  | 0, _, _, _, h => by cases h
  | d + 1, i, j, x, h => by
    unfold scan at h
    split at h
    · exact scan_ne d (i + 1) h
    · rename_i c
      injection h with h
      injection h with _ h2
      rw [← h2]; exact c
theorem chk_ok {nm : ByteArray} {l : List A_} (h : (chk nm l).2 = 0) : Uniq l ∧ l.length ≤ 12 := by
  unfold chk at h
  split at h
  · split at h
    · exact absurd h (by decide)
    · split at h
      · exact absurd h (by decide)
      · refine ⟨?_, by omega⟩
        cases c : scan (e1 l) l.length 0 with
        | none => exact e1_uniq c
        | some p =>
          obtain ⟨j, x⟩ := p
          rw [c] at h
          exact absurd h (scan_ne _ _ c)
  · exact absurd h (by decide)
theorem toB_cB (l : List Fw.T) : l.map Fw.toB = (l.map Fw.toA).map cB := by rw [List.map_map]; rfl
theorem deps_20 (l : List Fw.T) (i : Nat) (hi : i < (l.map Fw.toA).length) : (nd (l.map Fw.toA) i).f1.length + 1 ≤ 21 := by
  unfold nd
  rw [List.length_map] at hi
  rw [List.getD_eq_getElem?_getD, List.getElem?_map, List.getElem?_eq_getElem hi]
  show ((l[i]).f1.take 20).length + 1 ≤ 21
  rw [List.length_take]; omega
theorem checks_pure (nm : ByteArray) (l : List Fw.T) : ∃ k, precinctlaw12_GraphChecks.f k nm l = some true := by
  obtain ⟨K1, h1⟩ := check_some nm ((l.take 20).map Fw.toA) (fun i hi => by have := deps_20 (l.take 20) i hi; omega)
  obtain ⟨K2, h2⟩ := rcheck_some nm ((l.take 20).map Fw.toA) 21 (deps_20 (l.take 20)) (by decide)
  refine ⟨max K1 K2, ?_⟩
  unfold precinctlaw12_GraphChecks.f precinctlaw12_flows.f precinctlaw12_wakes.f
  rw [Option.bind_some, h1 _ (by omega), Option.bind_some, toB_cB, h2 _ (by omega), Option.bind_some, Option.bind_some, if_pos rfl, if_pos rfl]
  simp
theorem same_l0 (x : List Int) (hx : x.length ≤ 4096) : ∀ (d i : Nat), i + d = x.length → ∀ K, precinctlaw12_GraphMasks.l0 (K + d + 1) x x x.length i = some true
  | 0, i, h, K => by rw [precinctlaw12_GraphMasks.l0, if_neg (by omega)]
  | d + 1, i, h, K => by
    have e1' : wrap64 ((i : Int) + 1) = ((i + 1 : Nat) : Int) := by rw [w64 (by omega) (by omega)]; rfl
    rw [show K + (d + 1) + 1 = (K + d + 1) + 1 by omega, precinctlaw12_GraphMasks.l0, if_pos (by omega), if_pos (by omega), if_pos (by omega), if_pos (by omega), if_pos rfl, e1']
    exact same_l0 x hx d (i + 1) (by omega) K
theorem masks_pure (nm : ByteArray) (l : List Fw.T) : ∃ k, precinctlaw12_GraphMasks.f k nm l = some true := by
  obtain ⟨K2, h2⟩ := rcheck_some nm ((l.take 20).map Fw.toA) 21 (deps_20 (l.take 20)) (by decide)
  have hd := deps_20 (l.take 20)
  unfold precinctlaw12_GraphMasks.f precinctlaw12_flows.f precinctlaw12_wakes.f
  simp only [Option.bind_some, toB_cB]
  generalize (l.take 20).map Fw.toA = a at h2 hd
  by_cases c : (chk nm a).2 = 0
  · obtain ⟨hu, hl⟩ := chk_ok c
    obtain ⟨K1, h1⟩ := masks_some nm a (by omega) (fun i hi => by have := hd i hi; omega)
    obtain ⟨K3, h3⟩ := rmasks_some nm hu hl 21 hd (by decide)
    refine ⟨K1 + K2 + K3 + a.length + 2, ?_⟩
    rw [h2 _ (by omega), Option.bind_some]
    have hb : ((chk nm a).2 != 0) = false := bne_eq_false_iff_eq.mpr c
    rw [if_pos trivial, hb, precinctlaw12_GraphMasks.j0, if_neg (by decide), show K1 + K2 + K3 + a.length + 1 = (K2 + K3 + a.length + 1) + K1 by omega, h1, Option.bind_some, h3 _ (by omega), Option.bind_some, if_pos rfl]
    have hx : (ints ((List.range a.length).map (msk a))).length = a.length := by rw [ints_length]; simp
    have := same_l0 (ints ((List.range a.length).map (msk a))) (by omega) a.length 0 (by omega) (K2 + K3 + K1)
    rw [show K2 + K3 + a.length + 1 + K1 = K2 + K3 + K1 + a.length + 1 by omega]
    exact this
  · refine ⟨K2 + 1, ?_⟩
    rw [h2 _ (by omega), Option.bind_some]
    have hb : ((chk nm a).2 != 0) = true := bne_iff_ne.mpr c
    rw [if_pos trivial, hb, precinctlaw12_GraphMasks.j0, if_pos rfl]
    unfold precinctlaw12_wakes.f
    rfl
end Go.Proofs.Ytjicfkmpgogppaa.Gr
