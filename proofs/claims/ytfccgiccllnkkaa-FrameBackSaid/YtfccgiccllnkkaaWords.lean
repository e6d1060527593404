/-
  What the functions of package words, and of its reference, come to (plain: over the printed functions).
-/
import Derived.Test.YtfccgiccllnkkaaPXx4
import Derived.Test.YtfccgiccllnkkaaPlain
namespace Go.Proofs.Ytfccgiccllnkkaa.Words
set_option linter.unusedVariables false
set_option linter.unusedSimpArgs false
open Go Go.RowKit Go.Proofs.Ytfccgiccllnkkaa.Plain Go.Proofs.Ytfccgiccllnkkaa.PX Go.Proofs.YtfccgiccllnkkaaW.PrintWords Go.Proofs.YtfccgiccllnkkaaW.PrintLast Go.Proofs.YtfccgiccllnkkaaW.PrintMore

theorem shr64 (n : Int) (i : Int) (h1 : i ≤ 64) : shr .u64 n i = n / 2 ^ i.toNat := by
  unfold shr; rw [Nat.min_eq_left (by simp [IntKind.bits]; omega)]
theorem shl64 (n : Int) (i : Int) (h1 : i ≤ 64) : shl .u64 n i = n * 2 ^ i.toNat % 18446744073709551616 := by
  unfold shl; rw [Nat.min_eq_left (by simp [IntKind.bits]; omega), wu64]
theorem shr32 (n : Int) (i : Int) (h1 : i ≤ 32) : shr .u32 n i = n / 2 ^ i.toNat := by
  unfold shr; rw [Nat.min_eq_left (by simp [IntKind.bits]; omega)]
theorem shl32 (n : Int) (i : Int) (h1 : i ≤ 32) : shl .u32 n i = n * 2 ^ i.toNat % 4294967296 := by
  unfold shl; rw [Nat.min_eq_left (by simp [IntKind.bits]; omega), wu32]

/-! #### one bit -/
theorem bit_loop (d : Nat) : ∀ (k : Nat) (n at_ i : Int), 0 ≤ n → n < 18446744073709551616 → 0 ≤ i → at_ ≤ 63 → at_ - i = d → d < k →
    precinctref01_Bit.l0 k n at_ i = some (n / 2 ^ d % 2) := by
  induction d with
  | zero =>
    intro k n at_ i h0 h1 h2 h3 h4 h5
    obtain ⟨k, rfl⟩ : ∃ m, k = m + 1 := ⟨k - 1, by omega⟩
    simp only [precinctref01_Bit.l0]; rw [if_neg (by omega), tm2 h0]; simp
  | succ d ih =>
    intro k n at_ i h0 h1 h2 h3 h4 h5
    obtain ⟨k, rfl⟩ : ∃ m, k = m + 1 := ⟨k - 1, by omega⟩
    simp only [precinctref01_Bit.l0]
    rw [if_pos (by omega), td2 h0, wu64, w64 (by omega) (by omega), Int.emod_eq_of_lt (by omega) (by omega), ih k (n / 2) at_ (i + 1) (by omega) (by omega) (by omega) h3 (by omega) (by omega), Int.ediv_ediv_of_nonneg (by omega), Int.pow_succ, Int.mul_comm]
theorem bit_some {n i : Int} (k : Nat) (h0 : 0 ≤ n) (h1 : n < 18446744073709551616) (h2 : 0 ≤ i) (h3 : i ≤ 63) (hk : 66 ≤ k) :
    precinctref01_Bit.f k n i = some (n / 2 ^ i.toNat % 2) := by
  obtain ⟨k, rfl⟩ : ∃ m, k = m + 1 := ⟨k - 1, by omega⟩
  unfold precinctref01_Bit.f
  rw [if_neg (by omega)]
  simp only [precinctref01_Bit.j0]
  rw [decide_eq_false (by omega), if_neg (by simp), bit_loop i.toNat k n i 0 h0 h1 (by omega) h3 (by omega) (by omega)]
theorem bit_none {n i : Int} (k : Nat) (h2 : i < 0 ∨ 63 < i) (hk : 1 ≤ k) : precinctref01_Bit.f k n i = some 0 := by
  obtain ⟨k, rfl⟩ : ∃ m, k = m + 1 := ⟨k - 1, by omega⟩
  unfold precinctref01_Bit.f
  by_cases h : i < 0
  · rw [if_pos h]; simp [precinctref01_Bit.j0]
  · rw [if_neg h]; simp only [precinctref01_Bit.j0]; rw [decide_eq_true (by omega)]; simp

/-! #### Put -/
theorem put_loop (d : Nat) : ∀ (k : Nat) (n : Int) (xs : List Int), 0 ≤ n → n < 18446744073709551616 → d ≤ 8 → xs.length + d ≤ 8 → d < k →
    words_Put.l0 k n xs ((d : Int) - 1) = some (strOfNums (xs ++ puts d n)) := by
  induction d with
  | zero =>
    intro k n xs h0 h1 hd hx hk
    obtain ⟨k, rfl⟩ : ∃ m, k = m + 1 := ⟨k - 1, by omega⟩
    simp only [words_Put.l0]; rw [if_neg (by omega)]; simp [puts]
  | succ d ih =>
    intro k n xs h0 h1 hd hx hk
    obtain ⟨k, rfl⟩ : ∃ m, k = m + 1 := ⟨k - 1, by omega⟩
    simp only [words_Put.l0]
    rw [show ((d + 1 : Nat) : Int) - 1 = (d : Int) by omega, if_pos (by omega), w64 (n := 8 * (d : Int)) (by omega) (by omega), if_pos (by omega), if_pos (by omega), shr64 _ _ (by omega), w64 (by omega) (by omega), ih k n _ h0 h1 (by omega) (by simp; omega) (by omega), puts_front, pow8]
    simp
theorem put_some {w n : Int} (k : Nat) (h0 : 0 ≤ n) (h1 : n < 18446744073709551616) (hk : 10 ≤ k) : words_Put.f k w n = some (put w n) := by
  unfold words_Put.f put
  have e : mx 0 (mn w 8) = ((max 0 (min w 8)).toNat : Int) := by unfold mx mn; omega
  rw [e, put_loop _ k n [] h0 h1 (by omega) (by simp; omega) (by omega)]
  simp
theorem rput_loop (d : Nat) : ∀ (k : Nat) (w n : Int) (s : ByteArray) (i : Int), 0 ≤ n → n < 18446744073709551616 → 0 ≤ i → i + s.size ≤ 2 * i → i + d ≤ 8 → (max i (min w 8)) - i = d → d < k →
    precinctref01_Put.l0 k w n s i = some (strOfNums (puts d n) ++ s) := by
  induction d with
  | zero =>
    intro k w n s i h0 h1 hi hs hd hx hk
    obtain ⟨k, rfl⟩ : ∃ m, k = m + 1 := ⟨k - 1, by omega⟩
    simp only [precinctref01_Put.l0]
    have e : strOfNums (puts 0 n) ++ s = s := by simp [puts, strOfNums_nil]
    rw [e]
    by_cases h : i < w
    · rw [if_pos h, if_neg (by omega)]
    · rw [if_neg h]
  | succ d ih =>
    intro k w n s i h0 h1 hi hs hd hx hk
    obtain ⟨k, rfl⟩ : ∃ m, k = m + 1 := ⟨k - 1, by omega⟩
    simp only [precinctref01_Put.l0]
    rw [if_pos (by omega), if_pos (by omega)]
    simp only [Option.bind_some]
    have hz := size_strOfNums [Int.tmod n 256 % 256]
    simp at hz
    rw [if_pos (by omega), Int.tdiv_eq_ediv_of_nonneg h0, Int.tmod_eq_emod_of_nonneg h0, wu64, Int.emod_eq_of_lt (by omega) (by omega), w64 (by omega) (by omega)]
    rw [ih k w (n / 256) _ (i + 1) (by omega) (by omega) (by omega) (by rw [ByteArray.size_append, size_strOfNums]; simp; omega) (by omega) (by omega) (by omega)]
    simp only [puts, strOfNums_append]
    rw [ByteArray.append_assoc]
    simp
theorem rput_some {w n : Int} (k : Nat) (h0 : 0 ≤ n) (h1 : n < 18446744073709551616) (hk : 10 ≤ k) : precinctref01_Put.f k w n = some (put w n) := by
  unfold precinctref01_Put.f put
  rw [rput_loop (max 0 (min w 8)).toNat k w n _ 0 h0 h1 (by omega) (by decide) (by omega) (by omega) (by omega)]
  congr 1
  exact ByteArray.append_empty

/-! #### Get -/
theorem or_join (x y : Int) (h0 : 0 ≤ x) (h1 : x < 72057594037927936) (k0 : 0 ≤ y) (k1 : y ≤ 255) : bits .or .u64 (x * 256) y = x * 256 + y := by
  rw [or_u64 _ _ (by omega) (by omega) k0 (by omega)]
  have e : (x * 256).toNat = 2 ^ 8 * x.toNat := by omega
  rw [e, ← Nat.two_pow_add_eq_or_of_lt (by omega)]; omega
theorem get_loop (s : ByteArray) (a w : Int) (h0 : 0 ≤ a) (h1 : a + w ≤ s.size) (hw : w ≤ 8) (hs : s.size ≤ 140737488351232 * 4) (d : Nat) : ∀ (k i : Nat), (i : Int) + d = w → d < k →
    words_Get.l0 k s a w (gets s a i) w i = some (gets s a w.toNat, a + w, 0) := by
  induction d with
  | zero =>
    intro k i hi hk
    obtain ⟨k, rfl⟩ : ∃ m, k = m + 1 := ⟨k - 1, by omega⟩
    simp only [words_Get.l0]; rw [if_neg (by omega), w64 (by omega) (by omega), show i = w.toNat by omega]
  | succ d ih =>
    intro k i hi hk
    obtain ⟨k, rfl⟩ : ∃ m, k = m + 1 := ⟨k - 1, by omega⟩
    simp only [words_Get.l0]
    have hb := bt_range s (a + i)
    have hg := gets_lt s a i
    have hm : (256 : Int) ^ i ≤ 256 ^ 7 := pow256 i (by omega)
    rw [if_pos (by omega), w64 (n := a + i) (by omega) (by omega), if_pos (by omega), if_pos (by omega), wu64, wu64, Int.emod_eq_of_lt (by omega) (by omega), Int.emod_eq_of_lt (by omega) (by omega), or_join _ _ hg.1 (by omega) hb.1 hb.2, w64 (by omega) (by omega)]
    exact ih k (i + 1) (by omega) (by omega)
theorem get_some {s : ByteArray} {a w : Int} (k : Nat) (ha : -9223372036854775808 ≤ a ∧ a ≤ 9223372036854775807) (hs : s.size ≤ 140737488351232 * 4) (hk : 12 ≤ k) : words_Get.f k s a w = some (getR s a w) := by
  unfold words_Get.f getR
  obtain ⟨k, rfl⟩ : ∃ m, k = m + 1 := ⟨k - 1, by omega⟩
  by_cases h1 : w < 1
  · rw [if_pos h1, if_pos (by omega)]; simp [words_Get.j0]
  · rw [if_neg h1]
    by_cases h2 : w > 8
    · rw [if_pos h2, if_pos (by omega)]; simp [words_Get.j0]
    · rw [if_neg h2]
      by_cases h3 : a < 0
      · rw [if_pos h3, if_pos (by omega)]; simp [words_Get.j0]
      · rw [if_neg h3]
        by_cases h4 : a > s.size
        · rw [if_pos (by omega), decide_eq_true h4]; simp [words_Get.j0]
        · rw [if_neg (by omega), decide_eq_false h4]; simp only [words_Get.j0]
          rw [if_neg (by simp), w64 (by omega) (by omega)]
          by_cases h5 : (s.size : Int) - a < w
          · rw [if_pos h5, if_pos h5]
          · rw [if_neg h5, if_neg h5]
            exact get_loop s a w (by omega) (by omega) (by omega) hs w.toNat k 0 (by omega) (by omega)
theorem rget_loop (s : ByteArray) (a w : Int) (h0 : 0 ≤ a) (h1 : a + w ≤ s.size) (hw : w ≤ 8) (hs : s.size ≤ 140737488351232 * 4) (d : Nat) : ∀ (k i : Nat), (i : Int) + d = w → d < k →
    precinctref01_Get.l0 k s a w (gets s a i) i = some (gets s a w.toNat, a + w, 0) := by
  induction d with
  | zero =>
    intro k i hi hk
    obtain ⟨k, rfl⟩ : ∃ m, k = m + 1 := ⟨k - 1, by omega⟩
    simp only [precinctref01_Get.l0]; rw [if_neg (by omega), w64 (by omega) (by omega), show i = w.toNat by omega]
  | succ d ih =>
    intro k i hi hk
    obtain ⟨k, rfl⟩ : ∃ m, k = m + 1 := ⟨k - 1, by omega⟩
    simp only [precinctref01_Get.l0]
    have hb := bt_range s (a + i)
    have hg := gets_lt s a i
    have hm : (256 : Int) ^ i ≤ 256 ^ 7 := pow256 i (by omega)
    rw [if_pos (by omega), w64 (n := a + i) (by omega) (by omega), if_pos (by omega), if_pos (by omega), wu64, wu64, wu64, Int.emod_eq_of_lt (b := 18446744073709551616) (a := gets s a i * 256) (by omega) (by omega), Int.emod_eq_of_lt (b := 18446744073709551616) (a := bt s (a + i)) (by omega) (by omega), Int.emod_eq_of_lt (by omega) (by omega), w64 (by omega) (by omega)]
    exact ih k (i + 1) (by omega) (by omega)
theorem rget_some {s : ByteArray} {a w : Int} (k : Nat) (ha : -9223372036854775808 ≤ a ∧ a ≤ 9223372036854775807) (hs : s.size ≤ 140737488351232 * 4) (hk : 12 ≤ k) : precinctref01_Get.f k s a w = some (getR s a w) := by
  unfold precinctref01_Get.f getR
  obtain ⟨k, rfl⟩ : ∃ m, k = m + 1 := ⟨k - 1, by omega⟩
  by_cases h1 : w < 1
  · rw [if_pos h1, if_pos (by omega)]; simp [precinctref01_Get.j0]
  · rw [if_neg h1]
    by_cases h2 : w > 8
    · rw [if_pos h2, if_pos (by omega)]; simp [precinctref01_Get.j0]
    · rw [if_neg h2]
      by_cases h3 : a < 0
      · rw [if_pos h3, if_pos (by omega)]; simp [precinctref01_Get.j0]
      · rw [if_neg h3]
        by_cases h4 : a > s.size
        · rw [if_pos (by omega), decide_eq_true h4]; simp [precinctref01_Get.j0]
        · rw [if_neg (by omega), decide_eq_false h4]; simp only [precinctref01_Get.j0]
          rw [if_neg (by simp), w64 (by omega) (by omega)]
          by_cases h5 : (s.size : Int) - a < w
          · rw [if_pos (by omega), if_pos h5]
          · rw [if_neg (by omega), if_neg h5]
            exact rget_loop s a w (by omega) (by omega) (by omega) hs w.toNat k 0 (by omega) (by omega)

end Go.Proofs.Ytfccgiccllnkkaa.Words
