/-
  pack.Get by the plain reader; a value's bytes are some.
-/
import Derived.Test.YtjicfkmpgogppaaPOx12
import Derived.Test.YtjicfkmpgogppaaCut
namespace Go.Proofs.Ytjicfkmpgogppaa.Co
set_option linter.unusedVariables false
set_option linter.unusedSimpArgs false
open Go Go.RowKit Go.Proofs.Ytjicfkmpgogppaa.Plain Go.Proofs.Ytjicfkmpgogppaa.Vr Go.Proofs.Ytjicfkmpgogppaa.Pv Go.Proofs.Ytjicfkmpgogppaa.PO Go.Proofs.YtjicfkmpgogppaaW.PrintWords Go.Proofs.YtjicfkmpgogppaaW.PrintLast Go.Proofs.YtjicfkmpgogppaaW.PrintMore
theorem get_is (s : ByteArray) (hs : s.size ≤ 140737488351232 * 4) (e : Int) (x : Vs.V) (q : Int) (h : valR mk Rr.noV 20 s 0 0 = some (e, x, q)) : pack_Get.f s = if e = 0 then (if q < (s.size : Int) then some (0, 0, ⟨#[]⟩, [], 4) else some (x.f0, x.f1, x.f2, x.f3, 0)) else some (0, 0, ⟨#[]⟩, [], e) := by
  unfold pack_Get.f
  rw [if_pos hs]
  exact (congrArg (fun t => Option.bind t _) h).trans rfl
theorem put_some_size (x : Vs.V) (d : Int) (h : (putV x d).2 = 0) : 0 < (putV x d).1.size := by
  obtain ⟨a, b, c, l⟩ := x
  by_cases c0 : a = 0
  · have hP : putV ⟨a, b, c, l⟩ d = (Pk.intB b, 0) := by simp only [putV]; rw [if_pos c0]
    rw [hP]
    show 0 < (Pk.intB b).size
    unfold Pk.intB
    rw [size_app, size_app]
    have : (⟨#[1]⟩ : ByteArray).size = 1 := rfl
    omega
  by_cases c1 : a = 1
  · by_cases c2 : (c.size : Int) > 4096
    · have hP : putV ⟨a, b, c, l⟩ d = (⟨#[]⟩, 5) := by simp only [putV]; rw [if_neg c0, if_pos c1, if_pos c2]
      rw [hP] at h; exact absurd h (by decide)
    · have hP : putV ⟨a, b, c, l⟩ d = ((⟨#[2]⟩ : ByteArray) ++ (Go.Proofs.Ytjicfkmpgogppaa.WordsA.textR c).1, 0) := by simp only [putV]; rw [if_neg c0, if_pos c1, if_neg c2]
      rw [hP]
      show 0 < ((⟨#[2]⟩ : ByteArray) ++ (Go.Proofs.Ytjicfkmpgogppaa.WordsA.textR c).1).size
      rw [size_app]
      have : (⟨#[2]⟩ : ByteArray).size = 1 := rfl
      omega
  by_cases c2 : a = 2
  · by_cases c3 : (l.length : Int) > 256
    · have hP : putV ⟨a, b, c, l⟩ d = (⟨#[]⟩, 5) := by simp only [putV]; rw [if_neg c0, if_neg c1, if_pos c2, if_pos c3]
      rw [hP] at h; exact absurd h (by decide)
    by_cases c4 : d ≥ 8
    · have hP : putV ⟨a, b, c, l⟩ d = (⟨#[]⟩, 5) := by simp only [putV]; rw [if_neg c0, if_neg c1, if_pos c2, if_neg c3, if_pos c4]
      rw [hP] at h; exact absurd h (by decide)
    have hP : putV ⟨a, b, c, l⟩ d = (Pk.headB l.length (putVs l (d + 1)).1, (putVs l (d + 1)).2) := by simp only [putV]; rw [if_neg c0, if_neg c1, if_pos c2, if_neg c3, if_neg c4]
    rw [hP]
    show 0 < (Pk.headB l.length (putVs l (d + 1)).1).size
    unfold Pk.headB
    rw [size_app, size_app]
    have : (⟨#[3]⟩ : ByteArray).size = 1 := rfl
    omega
  · have hP : putV ⟨a, b, c, l⟩ d = (⟨#[]⟩, 2) := by simp only [putV]; rw [if_neg c0, if_neg c1, if_neg c2]
    rw [hP] at h; exact absurd h (by decide)
theorem extract_split (s : ByteArray) (n : Nat) (h : n ≤ s.size) : s.extract 0 n ++ s.extract n s.size = s := by
  apply ByteArray.ext
  rw [ByteArray.data_append, ByteArray.data_extract, ByteArray.data_extract]
  apply Array.ext'
  have hs : s.data.toList.length = s.size := Array.length_toList
  simp only [Array.toList_append, Array.toList_extract, List.extract_eq_take_drop]
  rw [List.drop_zero, Nat.sub_zero, List.take_of_length_le (show (s.data.toList.drop n).length ≤ s.size - n by rw [List.length_drop, hs]; exact Nat.le_refl _), List.take_append_drop]
end Go.Proofs.Ytjicfkmpgogppaa.Co
