/-
  What the functions of package words, and of its reference, come to (plain: over the printed functions).
-/
import Derived.Test.YtelhajoedlaohaaDoorPDx19
import Derived.Test.YtelhajoedlaohaaDoorPDx5
import Derived.Test.YtelhajoedlaohaaDoorPlain
namespace Go.Proofs.YtelhajoedlaohaaDoor.WordsA
set_option linter.unusedVariables false
set_option linter.unusedSimpArgs false
open Go Go.RowKit Go.Proofs.YtelhajoedlaohaaDoor.Plain Go.Proofs.YtelhajoedlaohaaDoor.PD Go.Proofs.YtelhajoedlaohaaDoorW.PrintWords Go.Proofs.YtelhajoedlaohaaDoorW.PrintLast Go.Proofs.YtelhajoedlaohaaDoorW.PrintMore

theorem shr64 (n : Int) (i : Int) (h1 : i ≤ 64) : shr .u64 n i = n / 2 ^ i.toNat := by
  unfold shr; rw [Nat.min_eq_left (by simp [IntKind.bits]; omega)]
theorem shl64 (n : Int) (i : Int) (h1 : i ≤ 64) : shl .u64 n i = n * 2 ^ i.toNat % 18446744073709551616 := by
  unfold shl; rw [Nat.min_eq_left (by simp [IntKind.bits]; omega), wu64]
theorem shr32 (n : Int) (i : Int) (h1 : i ≤ 32) : shr .u32 n i = n / 2 ^ i.toNat := by
  unfold shr; rw [Nat.min_eq_left (by simp [IntKind.bits]; omega)]
theorem shl32 (n : Int) (i : Int) (h1 : i ≤ 32) : shl .u32 n i = n * 2 ^ i.toNat % 4294967296 := by
  unfold shl; rw [Nat.min_eq_left (by simp [IntKind.bits]; omega), wu32]

/-! #### Put -/
theorem put_loop (d : Nat) : ∀ (k : Nat) (n : Int) (xs : List Int), 0 ≤ n → n < 18446744073709551616 → d ≤ 8 → xs.length + d ≤ 8 → d < k →
    words_Put.l0 k n xs ((d : Int) - 1) = some (strOfNums (xs ++ puts d n)) := by
  induction d with
  | zero =>
    intro k n xs h0 h1 hd hx hk
    obtain ⟨k, rfl⟩ : ∃ m, k = m + 1 := ⟨k - 1, by omega⟩
    simp only [words_Put.l0]; rw [if_neg (by omega)]; simp [puts]
  | succ d ih =>
    intro k n xs h0 h1 hd hx hk
    obtain ⟨k, rfl⟩ : ∃ m, k = m + 1 := ⟨k - 1, by omega⟩
    simp only [words_Put.l0]
    rw [show ((d + 1 : Nat) : Int) - 1 = (d : Int) by omega, if_pos (by omega), w64 (n := 8 * (d : Int)) (by omega) (by omega), if_pos (by omega), if_pos (by omega), shr64 _ _ (by omega), w64 (by omega) (by omega), ih k n _ h0 h1 (by omega) (by simp; omega) (by omega), puts_front, pow8]
    simp
theorem put_some {w n : Int} (k : Nat) (h0 : 0 ≤ n) (h1 : n < 18446744073709551616) (hk : 10 ≤ k) : words_Put.f k w n = some (put w n) := by
  unfold words_Put.f put
  have e : mx 0 (mn w 8) = ((max 0 (min w 8)).toNat : Int) := by unfold mx mn; omega
  rw [e, put_loop _ k n [] h0 h1 (by omega) (by simp; omega) (by omega)]
  simp
theorem rput_loop (d : Nat) : ∀ (k : Nat) (w n : Int) (s : ByteArray) (i : Int), 0 ≤ n → n < 18446744073709551616 → 0 ≤ i → i + s.size ≤ 2 * i → i + d ≤ 8 → (max i (min w 8)) - i = d → d < k →
    precinctref01_Put.l0 k w n s i = some (strOfNums (puts d n) ++ s) := by
  induction d with
  | zero =>
    intro k w n s i h0 h1 hi hs hd hx hk
    obtain ⟨k, rfl⟩ : ∃ m, k = m + 1 := ⟨k - 1, by omega⟩
    simp only [precinctref01_Put.l0]
    have e : strOfNums (puts 0 n) ++ s = s := by simp [puts, strOfNums_nil]
    rw [e]
    by_cases h : i < w
    · rw [if_pos h, if_neg (by omega)]
    · rw [if_neg h]
  | succ d ih =>
    intro k w n s i h0 h1 hi hs hd hx hk
    obtain ⟨k, rfl⟩ : ∃ m, k = m + 1 := ⟨k - 1, by omega⟩
    simp only [precinctref01_Put.l0]
    rw [if_pos (by omega), if_pos (by omega)]
    simp only [Option.bind_some]
    have hz := size_strOfNums [Int.tmod n 256 % 256]
    simp at hz
    rw [if_pos (by omega), Int.tdiv_eq_ediv_of_nonneg h0, Int.tmod_eq_emod_of_nonneg h0, wu64, Int.emod_eq_of_lt (by omega) (by omega), w64 (by omega) (by omega)]
    rw [ih k w (n / 256) _ (i + 1) (by omega) (by omega) (by omega) (by rw [ByteArray.size_append, size_strOfNums]; simp; omega) (by omega) (by omega) (by omega)]
    simp only [puts, strOfNums_append]
    rw [ByteArray.append_assoc]
    simp
theorem rput_some {w n : Int} (k : Nat) (h0 : 0 ≤ n) (h1 : n < 18446744073709551616) (hk : 10 ≤ k) : precinctref01_Put.f k w n = some (put w n) := by
  unfold precinctref01_Put.f put
  rw [rput_loop (max 0 (min w 8)).toNat k w n _ 0 h0 h1 (by omega) (by decide) (by omega) (by omega) (by omega)]
  congr 1
  exact ByteArray.append_empty

/-! #### Get -/
theorem or_join (x y : Int) (h0 : 0 ≤ x) (h1 : x < 72057594037927936) (k0 : 0 ≤ y) (k1 : y ≤ 255) : bits .or .u64 (x * 256) y = x * 256 + y := by
  rw [or_u64 _ _ (by omega) (by omega) k0 (by omega)]
  have e : (x * 256).toNat = 2 ^ 8 * x.toNat := by omega
  rw [e, ← Nat.two_pow_add_eq_or_of_lt (by omega)]; omega
end Go.Proofs.YtelhajoedlaohaaDoor.WordsA
