/-
  What the functions of package words, and of its reference, come to (plain: over the printed functions).
-/
import Derived.Test.YtfccgiccllnkkaaPYx1
import Derived.Test.YtfccgiccllnkkaaPlain
namespace Go.Proofs.Ytfccgiccllnkkaa.Words
set_option linter.unusedVariables false
set_option linter.unusedSimpArgs false
open Go Go.RowKit Go.Proofs.Ytfccgiccllnkkaa.Plain Go.Proofs.Ytfccgiccllnkkaa.PY Go.Proofs.YtfccgiccllnkkaaW.PrintWords Go.Proofs.YtfccgiccllnkkaaW.PrintLast Go.Proofs.YtfccgiccllnkkaaW.PrintMore

theorem shr64 (n : Int) (i : Int) (h1 : i ≤ 64) : shr .u64 n i = n / 2 ^ i.toNat := by
  unfold shr; rw [Nat.min_eq_left (by simp [IntKind.bits]; omega)]
theorem shl64 (n : Int) (i : Int) (h1 : i ≤ 64) : shl .u64 n i = n * 2 ^ i.toNat % 18446744073709551616 := by
  unfold shl; rw [Nat.min_eq_left (by simp [IntKind.bits]; omega), wu64]
theorem shr32 (n : Int) (i : Int) (h1 : i ≤ 32) : shr .u32 n i = n / 2 ^ i.toNat := by
  unfold shr; rw [Nat.min_eq_left (by simp [IntKind.bits]; omega)]
theorem shl32 (n : Int) (i : Int) (h1 : i ≤ 32) : shl .u32 n i = n * 2 ^ i.toNat % 4294967296 := by
  unfold shl; rw [Nat.min_eq_left (by simp [IntKind.bits]; omega), wu32]

/-! #### Put -/
theorem put_loop (d : Nat) : ∀ (k : Nat) (n : Int) (xs : List Int), 0 ≤ n → n < 18446744073709551616 → d ≤ 8 → xs.length + d ≤ 8 → d < k →
    words_Put.l0 k n xs ((d : Int) - 1) = some (strOfNums (xs ++ puts d n)) := by
  induction d with
  | zero =>
    intro k n xs h0 h1 hd hx hk
    obtain ⟨k, rfl⟩ : ∃ m, k = m + 1 := ⟨k - 1, by omega⟩
    simp only [words_Put.l0]; rw [if_neg (by omega)]; simp [puts]
  | succ d ih =>
    intro k n xs h0 h1 hd hx hk
    obtain ⟨k, rfl⟩ : ∃ m, k = m + 1 := ⟨k - 1, by omega⟩
    simp only [words_Put.l0]
    rw [show ((d + 1 : Nat) : Int) - 1 = (d : Int) by omega, if_pos (by omega), w64 (n := 8 * (d : Int)) (by omega) (by omega), if_pos (by omega), if_pos (by omega), shr64 _ _ (by omega), w64 (by omega) (by omega), ih k n _ h0 h1 (by omega) (by simp; omega) (by omega), puts_front, pow8]
    simp
theorem put_some {w n : Int} (k : Nat) (h0 : 0 ≤ n) (h1 : n < 18446744073709551616) (hk : 10 ≤ k) : words_Put.f k w n = some (put w n) := by
  unfold words_Put.f put
  have e : mx 0 (mn w 8) = ((max 0 (min w 8)).toNat : Int) := by unfold mx mn; omega
  rw [e, put_loop _ k n [] h0 h1 (by omega) (by simp; omega) (by omega)]
  simp
/-! #### Get -/
theorem or_join (x y : Int) (h0 : 0 ≤ x) (h1 : x < 72057594037927936) (k0 : 0 ≤ y) (k1 : y ≤ 255) : bits .or .u64 (x * 256) y = x * 256 + y := by
  rw [or_u64 _ _ (by omega) (by omega) k0 (by omega)]
  have e : (x * 256).toNat = 2 ^ 8 * x.toNat := by omega
  rw [e, ← Nat.two_pow_add_eq_or_of_lt (by omega)]; omega
theorem get_loop (s : ByteArray) (a w : Int) (h0 : 0 ≤ a) (h1 : a + w ≤ s.size) (hw : w ≤ 8) (hs : s.size ≤ 140737488351232 * 4) (d : Nat) : ∀ (k i : Nat), (i : Int) + d = w → d < k →
    words_Get.l0 k s a w (gets s a i) w i = some (gets s a w.toNat, a + w, 0) := by
  induction d with
  | zero =>
    intro k i hi hk
    obtain ⟨k, rfl⟩ : ∃ m, k = m + 1 := ⟨k - 1, by omega⟩
    simp only [words_Get.l0]; rw [if_neg (by omega), w64 (by omega) (by omega), show i = w.toNat by omega]
  | succ d ih =>
    intro k i hi hk
    obtain ⟨k, rfl⟩ : ∃ m, k = m + 1 := ⟨k - 1, by omega⟩
    simp only [words_Get.l0]
    have hb := bt_range s (a + i)
    have hg := gets_lt s a i
    have hm : (256 : Int) ^ i ≤ 256 ^ 7 := pow256 i (by omega)
    rw [if_pos (by omega), w64 (n := a + i) (by omega) (by omega), if_pos (by omega), if_pos (by omega), wu64, wu64, Int.emod_eq_of_lt (by omega) (by omega), Int.emod_eq_of_lt (by omega) (by omega), or_join _ _ hg.1 (by omega) hb.1 hb.2, w64 (by omega) (by omega)]
    exact ih k (i + 1) (by omega) (by omega)
theorem get_some {s : ByteArray} {a w : Int} (k : Nat) (ha : -9223372036854775808 ≤ a ∧ a ≤ 9223372036854775807) (hs : s.size ≤ 140737488351232 * 4) (hk : 12 ≤ k) : words_Get.f k s a w = some (getR s a w) := by
  unfold words_Get.f getR
  obtain ⟨k, rfl⟩ : ∃ m, k = m + 1 := ⟨k - 1, by omega⟩
  by_cases h1 : w < 1
  · rw [if_pos h1, if_pos (by omega)]; simp [words_Get.j0]
  · rw [if_neg h1]
    by_cases h2 : w > 8
    · rw [if_pos h2, if_pos (by omega)]; simp [words_Get.j0]
    · rw [if_neg h2]
      by_cases h3 : a < 0
      · rw [if_pos h3, if_pos (by omega)]; simp [words_Get.j0]
      · rw [if_neg h3]
        by_cases h4 : a > s.size
        · rw [if_pos (by omega), decide_eq_true h4]; simp [words_Get.j0]
        · rw [if_neg (by omega), decide_eq_false h4]; simp only [words_Get.j0]
          rw [if_neg (by simp), w64 (by omega) (by omega)]
          by_cases h5 : (s.size : Int) - a < w
          · rw [if_pos h5, if_pos h5]
          · rw [if_neg h5, if_neg h5]
            exact get_loop s a w (by omega) (by omega) (by omega) hs w.toNat k 0 (by omega) (by omega)
end Go.Proofs.Ytfccgiccllnkkaa.Words
