/-
  What Put and Get of package frame, and their references, come to.
-/
import Derived.Test.YtfccgiccllnkkaaSums
import Derived.Test.YtfccgiccllnkkaaTexts
import Derived.Test.YtfccgiccllnkkaaPYx1
namespace Go.Proofs.Ytfccgiccllnkkaa.Words
set_option linter.unusedVariables false
set_option linter.unusedSimpArgs false
open Go Go.RowKit Go.Proofs.Ytfccgiccllnkkaa.Plain Go.Proofs.Ytfccgiccllnkkaa.PY Go.Proofs.YtfccgiccllnkkaaW.PrintWords Go.Proofs.YtfccgiccllnkkaaW.PrintLast Go.Proofs.YtfccgiccllnkkaaW.PrintMore
/-- the frame of a body -/
def frameB (s : ByteArray) : ByteArray := (put 2 s.size ++ put 4 (sumR (put 2 s.size ++ s))) ++ s
/-- what Put answers -/
def frameR (s : ByteArray) : ByteArray × Int := if s.size = 0 then (⟨#[]⟩, 2) else if (s.size : Int) > 4096 then (⟨#[]⟩, 5) else (frameB s, 0)
theorem nil_size (s : ByteArray) : s.toList = ([] : List UInt8) ↔ s.size = 0 := by
  rw [toList_data]
  constructor
  · intro h; show s.data.size = 0; rw [← Array.length_toList, h]; rfl
  · intro h; have h' : s.data.toList.length = 0 := by rw [Array.length_toList]; exact h
    exact List.eq_nil_of_length_eq_zero h'
theorem u64_id {n : Int} (h0 : 0 ≤ n) (h1 : n < 18446744073709551616) : IntKind.u64.wrap n = n := by rw [wu64]; omega
theorem fput_some {s : ByteArray} (k : Nat) (hs : s.size ≤ 140737488351232 * 4) (hk : 50000 ≤ k) : frame_Put.f k s = some (frameR s) := by
  unfold frame_Put.f frameR
  by_cases h0 : s.size = 0
  · rw [if_pos ((nil_size s).2 h0), if_pos h0]
  · rw [if_neg (fun h => h0 ((nil_size s).1 h)), if_neg h0]
    by_cases h1 : (s.size : Int) > 4096
    · rw [if_pos h1, if_pos h1]
    · rw [if_neg h1, if_neg h1, u64_id (by omega) (by omega), put_some k (by omega) (by omega) (by omega)]
      simp only [Option.bind_some]
      have z : (put 2 s.size).size = 2 := by rw [size_put]; rfl
      have z2 : (put 2 s.size ++ s).size = 2 + s.size := by rw [ByteArray.size_append, z]
      have r := sumR_range (put 2 s.size ++ s)
      rw [if_pos (by omega), sum_some k (by omega) (by omega)]
      simp only [Option.bind_some]
      rw [u64_id r.1 (by omega), put_some k r.1 (by omega) (by omega)]
      simp only [Option.bind_some]
      have z4 : (put 4 (sumR (put 2 s.size ++ s))).size = 4 := by rw [size_put]; rfl
      rw [if_pos (by omega), if_pos (by rw [ByteArray.size_append]; omega)]
      rfl
/-- what Get answers -/
def frameG (s : ByteArray) (a : Int) : ByteArray × Int × Int :=
  if (getR s a 2).2.2 = 0 then
    (if gets s a 2 = 0 then (⟨#[]⟩, 0, 13) else if gets s a 2 > 4096 then (⟨#[]⟩, 0, 5) else if (s.size : Int) - a < 6 + gets s a 2 then (⟨#[]⟩, 0, 3)
      else if gets s (a + 2) 4 = sumR (s.extract a.toNat (a + 2).toNat ++ s.extract (a + 6).toNat (a + 6 + gets s a 2).toNat) then (s.extract (a + 6).toNat (a + 6 + gets s a 2).toNat, a + 6 + gets s a 2, 0)
      else (⟨#[]⟩, 0, 6))
  else (⟨#[]⟩, 0, (getR s a 2).2.2)
theorem size_cut (s : ByteArray) (a b : Nat) (h : a ≤ b) (h' : b ≤ s.size) : (s.extract a b).size = b - a := by
  rw [ByteArray.size_extract]; omega
theorem fget_some {s : ByteArray} {a : Int} (k : Nat) (ha : -9223372036854775808 ≤ a ∧ a ≤ 9223372036854775807) (hs : s.size ≤ 140737488351232 * 4) (hk : 50000 ≤ k) : frame_Get.f k s a = some (frameG s a) := by
  unfold frame_Get.f frameG
  rw [get_some k ha hs (by omega)]
  simp only [Option.bind_some]
  by_cases h : (getR s a 2).2.2 = 0
  · obtain ⟨a0, a1, e, g0, g1⟩ := getR2 s a h
    rw [if_pos h, if_pos h, e]
    simp only
    by_cases c0 : gets s a 2 = 0
    · rw [if_pos c0, if_pos c0]
    rw [if_neg c0, if_neg c0]
    by_cases c1 : gets s a 2 > 4096
    · rw [if_pos c1, if_pos c1]
    rw [if_neg c1, if_neg c1, w64 (n := (s.size : Int) - a) (by omega) (by omega), w64 (n := gets s a 2) (by omega) (by omega), w64 (n := 6 + gets s a 2) (by omega) (by omega)]
    by_cases c2 : (s.size : Int) - a < 6 + gets s a 2
    · rw [if_pos c2, if_pos c2]
    rw [if_neg c2, if_neg c2, w64 (n := a + 2) (by omega) (by omega), get_some k (by omega) hs (by omega)]
    have e4 : getR s (a + 2) 4 = (gets s (a + 2) 4, a + 6, 0) := by
      unfold getR
      rw [if_neg (by omega), if_neg (by omega)]
      show (gets s (a + 2) 4, a + 2 + 4, (0 : Int)) = _
      rw [show a + 2 + 4 = a + 6 by omega]
    have l4 := gets_lt s (a + 2) 4
    rw [e4]
    simp only [Option.bind_some]
    rw [w64 (n := a + 6 + gets s a 2) (by omega) (by omega), if_pos (by omega), if_pos (by omega), if_pos (by omega), if_pos (by omega), if_pos (by omega), if_pos (by omega)]
    have z1 := size_cut s a.toNat (a + 2).toNat (by omega) (by omega)
    have z2 := size_cut s (a + 6).toNat (a + 6 + gets s a 2).toNat (by omega) (by omega)
    rw [if_pos (by omega), sum_some k (by rw [ByteArray.size_append]; omega) (by rw [ByteArray.size_append]; omega)]
    simp only [Option.bind_some]
    rw [Int.emod_eq_of_lt l4.1 (by have := l4.2; omega)]
    by_cases c4 : gets s (a + 2) 4 = sumR (s.extract a.toNat (a + 2).toNat ++ s.extract (a + 6).toNat (a + 6 + gets s a 2).toNat)
    · rw [if_pos c4, if_pos c4]
    · rw [if_neg c4, if_neg c4]
  · rw [if_neg h, if_neg h]
theorem getR4 (s : ByteArray) (a : Int) (h0 : 0 ≤ a) (h1 : a ≤ s.size) : getR s a 4 = if (s.size : Int) - a < 4 then (0, 0, 3) else (gets s a 4, a + 4, 0) := by
  unfold getR
  rw [if_neg (by omega)]; rfl
theorem fwakes_some (k : Nat) (hk : 50000 ≤ k) : precinctlaw03_wakes.f k = some true := by
  unfold precinctlaw03_wakes.f
  rw [fput_some (s := ⟨#[97]⟩) k (by decide) hk]
  simp only [Option.bind_some]
  have e1 : (frameR ⟨#[97]⟩).1 = ⟨#[0, 1, 224, 107, 43, 108, 97]⟩ := by decide +kernel
  have e2 : (frameR ⟨#[97]⟩).2 = 0 := by decide +kernel
  rw [e1, e2, fget_some (s := ⟨#[0, 1, 224, 107, 43, 108, 97]⟩) (a := 0) k (by omega) (by decide) hk, sum_some (s := ⟨#[49, 50, 51, 52, 53, 54, 55, 56, 57]⟩) k (by decide) (by show 10 * 9 + 1 ≤ _; omega)]
  have e3 : frameG (⟨#[0, 1, 224, 107, 43, 108, 97]⟩ : ByteArray) 0 = (⟨#[97]⟩, 7, 0) := by decide +kernel
  have e4 : sumR (⟨#[49, 50, 51, 52, 53, 54, 55, 56, 57]⟩ : ByteArray) = 3808858755 := by decide +kernel
  rw [e3, e4]
  have e5 : (⟨#[97]⟩ : ByteArray).toList = [97] := by rw [toList_data]
  simp [e5]
  rfl
end Go.Proofs.Ytfccgiccllnkkaa.Words
