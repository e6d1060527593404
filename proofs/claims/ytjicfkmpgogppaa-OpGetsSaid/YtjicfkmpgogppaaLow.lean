/-
  What the functions of package words, and of its reference, come to (plain: over the printed functions).
  What Text and GetText of package words, and their references, come to.
  What Fold and Unfold of package words, and of its reference, come to.
  Byte texts put one behind the other: what stands at a place of them.
-/
import Derived.Test.YtjicfkmpgogppaaPOx2
import Derived.Test.YtjicfkmpgogppaaPOx5
import Derived.Test.YtjicfkmpgogppaaPlain
namespace Go.Proofs.Ytjicfkmpgogppaa.WordsA
set_option linter.unusedVariables false
set_option linter.unusedSimpArgs false
open Go Go.RowKit Go.Proofs.Ytjicfkmpgogppaa.Plain Go.Proofs.Ytjicfkmpgogppaa.PO Go.Proofs.YtjicfkmpgogppaaW.PrintWords Go.Proofs.YtjicfkmpgogppaaW.PrintLast Go.Proofs.YtjicfkmpgogppaaW.PrintMore

theorem shr64 (n : Int) (i : Int) (h1 : i ≤ 64) : shr .u64 n i = n / 2 ^ i.toNat := by
  unfold shr; rw [Nat.min_eq_left (by simp [IntKind.bits]; omega)]
/-! #### Put -/
theorem put_loop (d : Nat) : ∀ (k : Nat) (n : Int) (xs : List Int), 0 ≤ n → n < 18446744073709551616 → d ≤ 8 → xs.length + d ≤ 8 → d < k →
    words_Put.l0 k n xs ((d : Int) - 1) = some (strOfNums (xs ++ puts d n)) := by
  induction d with
  | zero =>
    intro k n xs h0 h1 hd hx hk
    obtain ⟨k, rfl⟩ : ∃ m, k = m + 1 := ⟨k - 1, by omega⟩
    simp only [words_Put.l0]; rw [if_neg (by omega)]; simp [puts]
  | succ d ih =>
    intro k n xs h0 h1 hd hx hk
    obtain ⟨k, rfl⟩ : ∃ m, k = m + 1 := ⟨k - 1, by omega⟩
    simp only [words_Put.l0]
    rw [show ((d + 1 : Nat) : Int) - 1 = (d : Int) by omega, if_pos (by omega), w64 (n := 8 * (d : Int)) (by omega) (by omega), if_pos (by omega), if_pos (by omega), shr64 _ _ (by omega), w64 (by omega) (by omega), ih k n _ h0 h1 (by omega) (by simp; omega) (by omega), puts_front, pow8]
    simp
theorem put_some {w n : Int} (k : Nat) (h0 : 0 ≤ n) (h1 : n < 18446744073709551616) (hk : 10 ≤ k) : words_Put.f k w n = some (put w n) := by
  unfold words_Put.f put
  have e : mx 0 (mn w 8) = ((max 0 (min w 8)).toNat : Int) := by unfold mx mn; omega
  rw [e, put_loop _ k n [] h0 h1 (by omega) (by simp; omega) (by omega)]
  simp
/-! #### Get -/
theorem or_join (x y : Int) (h0 : 0 ≤ x) (h1 : x < 72057594037927936) (k0 : 0 ≤ y) (k1 : y ≤ 255) : bits .or .u64 (x * 256) y = x * 256 + y := by
  rw [or_u64 _ _ (by omega) (by omega) k0 (by omega)]
  have e : (x * 256).toNat = 2 ^ 8 * x.toNat := by omega
  rw [e, ← Nat.two_pow_add_eq_or_of_lt (by omega)]; omega
end Go.Proofs.Ytjicfkmpgogppaa.WordsA
namespace Go.Proofs.Ytjicfkmpgogppaa.WordsA
set_option linter.unusedVariables false
set_option linter.unusedSimpArgs false
open Go Go.RowKit Go.Proofs.Ytjicfkmpgogppaa.Plain Go.Proofs.Ytjicfkmpgogppaa.PO Go.Proofs.YtjicfkmpgogppaaW.PrintWords Go.Proofs.YtjicfkmpgogppaaW.PrintLast Go.Proofs.YtjicfkmpgogppaaW.PrintMore
/-- what Text answers -/
def textR (s : ByteArray) : ByteArray × Int := if (s.size : Int) > 65535 then (⟨#[]⟩, 5) else (put 2 s.size ++ s, 0)
/-- what GetText answers -/
def gtextR (s : ByteArray) (a : Int) : ByteArray × Int × Int :=
  if (getR s a 2).2.2 = 0 then (if (s.size : Int) - (getR s a 2).2.1 < (getR s a 2).1 then (⟨#[]⟩, 0, 3)
    else (s.extract (getR s a 2).2.1.toNat ((getR s a 2).2.1 + (getR s a 2).1).toNat, (getR s a 2).2.1 + (getR s a 2).1, 0))
  else (⟨#[]⟩, 0, (getR s a 2).2.2)
theorem text_some {s : ByteArray} (k : Nat) (hs : s.size ≤ 140737488351232 * 4) (hk : 10 ≤ k) : words_Text.f k s = some (textR s) := by
  unfold words_Text.f textR
  by_cases h : (s.size : Int) > 65535
  · rw [if_pos h, if_pos h]
  · rw [if_neg h, if_neg h, wu64, Int.emod_eq_of_lt (by omega) (by omega), put_some k (by omega) (by omega) hk]
    simp only [Option.bind_some]
    rw [if_pos (by rw [size_put]; omega)]
theorem getR2 (s : ByteArray) (a : Int) : (getR s a 2).2.2 = 0 → 0 ≤ a ∧ a + 2 ≤ s.size ∧ getR s a 2 = (gets s a 2, a + 2, 0) ∧ 0 ≤ gets s a 2 ∧ gets s a 2 < 65536 := by
  unfold getR
  by_cases h : (2 : Int) < 1 ∨ (2 : Int) > 8 ∨ a < 0 ∨ a > s.size
  · rw [if_pos h]; intro h; simp at h
  · rw [if_neg h]
    by_cases g : (s.size : Int) - a < 2
    · rw [if_pos g]; intro h; simp at h
    · rw [if_neg g]; intro _
      have := gets_lt s a 2
      exact ⟨by omega, by omega, rfl, this.1, by have := this.2; simpa using this⟩
end Go.Proofs.Ytjicfkmpgogppaa.WordsA
namespace Go.Proofs.Ytjicfkmpgogppaa.WordsA
set_option linter.unusedVariables false
set_option linter.unusedSimpArgs false
open Go Go.RowKit Go.Proofs.Ytjicfkmpgogppaa.Plain Go.Proofs.Ytjicfkmpgogppaa.PO Go.Proofs.YtjicfkmpgogppaaW.PrintWords Go.Proofs.YtjicfkmpgogppaaW.PrintLast Go.Proofs.YtjicfkmpgogppaaW.PrintMore
theorem fold_some {n : Int} (h0 : -9223372036854775808 ≤ n) (h1 : n ≤ 9223372036854775807) : words_Fold.f n = some (if 0 ≤ n then 2 * n else -2 * n - 1) := by
  unfold words_Fold.f
  rw [wu64, wu64]
  by_cases h : 0 ≤ n
  · rw [if_pos h, show n / 9223372036854775808 % 18446744073709551616 = 0 by omega, xor64_zero _ (by omega) (by omega)]
    unfold wrap64; congr 1; omega
  · rw [if_neg h, show n / 9223372036854775808 % 18446744073709551616 = 18446744073709551615 by omega, xor64_ones _ (by omega) (by omega)]
    unfold wrap64; congr 1; omega
end Go.Proofs.Ytjicfkmpgogppaa.WordsA
namespace Go.Proofs.Ytjicfkmpgogppaa.Plain
set_option linter.unusedVariables false
set_option linter.unusedSimpArgs false
open Go Go.RowKit Go.Proofs.YtjicfkmpgogppaaW.PrintWords Go.Proofs.YtjicfkmpgogppaaW.PrintLast Go.Proofs.YtjicfkmpgogppaaW.PrintMore
theorem data_append (A B : ByteArray) : (A ++ B).data.toList = A.data.toList ++ B.data.toList := by
  rw [ByteArray.data_append, Array.toList_append]
theorem cut_mid (A B C : ByteArray) : (A ++ (B ++ C)).extract A.size (A.size + B.size) = B := by
  apply ByteArray.ext
  rw [ByteArray.data_extract, ByteArray.data_append, ByteArray.data_append]
  apply Array.ext'
  have ha : A.data.toList.length = A.size := Array.length_toList
  have hb : B.data.toList.length = B.size := Array.length_toList
  simp only [Array.toList_extract, Array.toList_append, List.extract_eq_take_drop]
  rw [List.drop_left' ha, show A.size + B.size - A.size = B.size by omega, List.take_left' hb]
end Go.Proofs.Ytjicfkmpgogppaa.Plain
