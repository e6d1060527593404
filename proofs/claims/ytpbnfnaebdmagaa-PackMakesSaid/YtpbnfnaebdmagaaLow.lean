/-
  What the functions of package words, and of its reference, come to (plain: over the printed functions).
  What Text and GetText of package words, and their references, come to.
  What Fold and Unfold of package words, and of its reference, come to.
  Byte texts put one behind the other: what stands at a place of them.
-/
import Derived.Test.YtpbnfnaebdmagaaPXx2
import Derived.Test.YtpbnfnaebdmagaaPlain
namespace Go.Proofs.Ytpbnfnaebdmagaa.WordsA
set_option linter.unusedVariables false
set_option linter.unusedSimpArgs false
open Go Go.RowKit Go.Proofs.Ytpbnfnaebdmagaa.Plain Go.Proofs.Ytpbnfnaebdmagaa.PX Go.Proofs.YtpbnfnaebdmagaaW.PrintWords Go.Proofs.YtpbnfnaebdmagaaW.PrintLast Go.Proofs.YtpbnfnaebdmagaaW.PrintMore

theorem shr64 (n : Int) (i : Int) (h1 : i ≤ 64) : shr .u64 n i = n / 2 ^ i.toNat := by
  unfold shr; rw [Nat.min_eq_left (by simp [IntKind.bits]; omega)]
theorem shl64 (n : Int) (i : Int) (h1 : i ≤ 64) : shl .u64 n i = n * 2 ^ i.toNat % 18446744073709551616 := by
  unfold shl; rw [Nat.min_eq_left (by simp [IntKind.bits]; omega), wu64]
theorem shr32 (n : Int) (i : Int) (h1 : i ≤ 32) : shr .u32 n i = n / 2 ^ i.toNat := by
  unfold shr; rw [Nat.min_eq_left (by simp [IntKind.bits]; omega)]
theorem shl32 (n : Int) (i : Int) (h1 : i ≤ 32) : shl .u32 n i = n * 2 ^ i.toNat % 4294967296 := by
  unfold shl; rw [Nat.min_eq_left (by simp [IntKind.bits]; omega), wu32]

/-! #### Put -/
theorem put_loop (d : Nat) : ∀ (k : Nat) (n : Int) (xs : List Int), 0 ≤ n → n < 18446744073709551616 → d ≤ 8 → xs.length + d ≤ 8 → d < k →
    words_Put.l0 k n xs ((d : Int) - 1) = some (strOfNums (xs ++ puts d n)) := by
  induction d with
  | zero =>
    intro k n xs h0 h1 hd hx hk
    obtain ⟨k, rfl⟩ : ∃ m, k = m + 1 := ⟨k - 1, by omega⟩
    simp only [words_Put.l0]; rw [if_neg (by omega)]; simp [puts]
  | succ d ih =>
    intro k n xs h0 h1 hd hx hk
    obtain ⟨k, rfl⟩ : ∃ m, k = m + 1 := ⟨k - 1, by omega⟩
    simp only [words_Put.l0]
    rw [show ((d + 1 : Nat) : Int) - 1 = (d : Int) by omega, if_pos (by omega), w64 (n := 8 * (d : Int)) (by omega) (by omega), if_pos (by omega), if_pos (by omega), shr64 _ _ (by omega), w64 (by omega) (by omega), ih k n _ h0 h1 (by omega) (by simp; omega) (by omega), puts_front, pow8]
    simp
theorem put_some {w n : Int} (k : Nat) (h0 : 0 ≤ n) (h1 : n < 18446744073709551616) (hk : 10 ≤ k) : words_Put.f k w n = some (put w n) := by
  unfold words_Put.f put
  have e : mx 0 (mn w 8) = ((max 0 (min w 8)).toNat : Int) := by unfold mx mn; omega
  rw [e, put_loop _ k n [] h0 h1 (by omega) (by simp; omega) (by omega)]
  simp
/-! #### Get -/
theorem or_join (x y : Int) (h0 : 0 ≤ x) (h1 : x < 72057594037927936) (k0 : 0 ≤ y) (k1 : y ≤ 255) : bits .or .u64 (x * 256) y = x * 256 + y := by
  rw [or_u64 _ _ (by omega) (by omega) k0 (by omega)]
  have e : (x * 256).toNat = 2 ^ 8 * x.toNat := by omega
  rw [e, ← Nat.two_pow_add_eq_or_of_lt (by omega)]; omega
end Go.Proofs.Ytpbnfnaebdmagaa.WordsA
namespace Go.Proofs.Ytpbnfnaebdmagaa.WordsA
set_option linter.unusedVariables false
set_option linter.unusedSimpArgs false
open Go Go.RowKit Go.Proofs.Ytpbnfnaebdmagaa.Plain Go.Proofs.Ytpbnfnaebdmagaa.PX Go.Proofs.YtpbnfnaebdmagaaW.PrintWords Go.Proofs.YtpbnfnaebdmagaaW.PrintLast Go.Proofs.YtpbnfnaebdmagaaW.PrintMore
/-- what Text answers -/
def textR (s : ByteArray) : ByteArray × Int := if (s.size : Int) > 65535 then (⟨#[]⟩, 5) else (put 2 s.size ++ s, 0)
/-- what GetText answers -/
def gtextR (s : ByteArray) (a : Int) : ByteArray × Int × Int :=
  if (getR s a 2).2.2 = 0 then (if (s.size : Int) - (getR s a 2).2.1 < (getR s a 2).1 then (⟨#[]⟩, 0, 3)
    else (s.extract (getR s a 2).2.1.toNat ((getR s a 2).2.1 + (getR s a 2).1).toNat, (getR s a 2).2.1 + (getR s a 2).1, 0))
  else (⟨#[]⟩, 0, (getR s a 2).2.2)
theorem text_some {s : ByteArray} (k : Nat) (hs : s.size ≤ 140737488351232 * 4) (hk : 10 ≤ k) : words_Text.f k s = some (textR s) := by
  unfold words_Text.f textR
  by_cases h : (s.size : Int) > 65535
  · rw [if_pos h, if_pos h]
  · rw [if_neg h, if_neg h, wu64, Int.emod_eq_of_lt (by omega) (by omega), put_some k (by omega) (by omega) hk]
    simp only [Option.bind_some]
    rw [if_pos (by rw [size_put]; omega)]
theorem getR2 (s : ByteArray) (a : Int) : (getR s a 2).2.2 = 0 → 0 ≤ a ∧ a + 2 ≤ s.size ∧ getR s a 2 = (gets s a 2, a + 2, 0) ∧ 0 ≤ gets s a 2 ∧ gets s a 2 < 65536 := by
  unfold getR
  by_cases h : (2 : Int) < 1 ∨ (2 : Int) > 8 ∨ a < 0 ∨ a > s.size
  · rw [if_pos h]; intro h; simp at h
  · rw [if_neg h]
    by_cases g : (s.size : Int) - a < 2
    · rw [if_pos g]; intro h; simp at h
    · rw [if_neg g]; intro _
      have := gets_lt s a 2
      exact ⟨by omega, by omega, rfl, this.1, by have := this.2; simpa using this⟩
end Go.Proofs.Ytpbnfnaebdmagaa.WordsA
namespace Go.Proofs.Ytpbnfnaebdmagaa.WordsA
set_option linter.unusedVariables false
set_option linter.unusedSimpArgs false
open Go Go.RowKit Go.Proofs.Ytpbnfnaebdmagaa.Plain Go.Proofs.Ytpbnfnaebdmagaa.PX Go.Proofs.YtpbnfnaebdmagaaW.PrintWords Go.Proofs.YtpbnfnaebdmagaaW.PrintLast Go.Proofs.YtpbnfnaebdmagaaW.PrintMore
theorem fold_some {n : Int} (h0 : -9223372036854775808 ≤ n) (h1 : n ≤ 9223372036854775807) : words_Fold.f n = some (if 0 ≤ n then 2 * n else -2 * n - 1) := by
  unfold words_Fold.f
  rw [wu64, wu64]
  by_cases h : 0 ≤ n
  · rw [if_pos h, show n / 9223372036854775808 % 18446744073709551616 = 0 by omega, xor64_zero _ (by omega) (by omega)]
    unfold wrap64; congr 1; omega
  · rw [if_neg h, show n / 9223372036854775808 % 18446744073709551616 = 18446744073709551615 by omega, xor64_ones _ (by omega) (by omega)]
    unfold wrap64; congr 1; omega
end Go.Proofs.Ytpbnfnaebdmagaa.WordsA
namespace Go.Proofs.Ytpbnfnaebdmagaa.Plain
set_option linter.unusedVariables false
set_option linter.unusedSimpArgs false
open Go Go.RowKit Go.Proofs.YtpbnfnaebdmagaaW.PrintWords Go.Proofs.YtpbnfnaebdmagaaW.PrintLast Go.Proofs.YtpbnfnaebdmagaaW.PrintMore
theorem bt_data (s : ByteArray) (i : Nat) (h : i < s.size) : bt s i = ((s.data.toList.getD i 0).toNat : Int) := by
  unfold bt
  have hl : s.data.toList.length = s.size := Array.length_toList
  have e : (i : Int).toNat = i := by omega
  rw [dif_pos (by omega)]
  simp only [e]
  rw [List.getD_eq_getElem?_getD, List.getElem?_eq_getElem (by omega)]
  rfl
theorem data_append (A B : ByteArray) : (A ++ B).data.toList = A.data.toList ++ B.data.toList := by
  rw [ByteArray.data_append, Array.toList_append]
theorem bt_right (A B : ByteArray) (i : Nat) (h : i < B.size) : bt (A ++ B) ((A.size : Int) + i) = bt B i := by
  have e : (A.size : Int) + i = ((A.size + i : Nat) : Int) := by omega
  rw [e, bt_data _ _ (by rw [ByteArray.size_append]; omega), bt_data _ _ h, data_append]
  have hl : A.data.toList.length = A.size := Array.length_toList
  rw [List.getD_eq_getElem?_getD, List.getD_eq_getElem?_getD, List.getElem?_append_right (by omega), show A.size + i - A.data.toList.length = i by omega]
theorem bt_left (A B : ByteArray) (i : Nat) (h : i < A.size) : bt (A ++ B) i = bt A i := by
  rw [bt_data _ _ (by rw [ByteArray.size_append]; omega), bt_data _ _ h, data_append]
  have hl : A.data.toList.length = A.size := Array.length_toList
  rw [List.getD_eq_getElem?_getD, List.getD_eq_getElem?_getD, List.getElem?_append_left (by omega)]
theorem bt_nums (xs : List Int) (i : Nat) (h : i < xs.length) (hx : ∀ x ∈ xs, 0 ≤ x ∧ x < 256) : bt (strOfNums xs) i = xs.getD i 0 := by
  rw [bt_data _ _ (by rw [size_strOfNums]; exact h)]
  have e : (strOfNums xs).data.toList = xs.map fun n => UInt8.ofNat n.toNat := rfl
  have hm := hx (xs[i]) (List.getElem_mem h)
  rw [e, List.getD_eq_getElem?_getD, List.getElem?_map, List.getElem?_eq_getElem h, List.getD_eq_getElem?_getD, List.getElem?_eq_getElem h]
  simp only [Option.map_some, Option.getD_some, UInt8.toNat_ofNat']
  omega
theorem puts_byte (w : Nat) : ∀ (n : Int), ∀ x ∈ puts w n, 0 ≤ x ∧ x < 256 := by
  induction w with
  | zero => intro n x h; cases h
  | succ w ih =>
    intro n x h
    rcases List.mem_append.1 h with h | h
    · exact ih _ x h
    · rw [List.mem_singleton.1 h]; omega
theorem puts_at (w : Nat) : ∀ (n : Int) (i : Nat), i < w → (puts w n).getD i 0 = n / 256 ^ (w - 1 - i) % 256 := by
  induction w with
  | zero => intro n i h; omega
  | succ w ih =>
    intro n i h
    rw [puts_front]
    cases i with
    | zero => simp
    | succ i =>
      rw [List.getD_cons_succ, ih n i (by omega)]
      congr 3; omega
theorem mod_step (m : Int) (i : Nat) (h : 0 ≤ m) : m % 256 ^ (i + 1) = m / 256 % 256 ^ i * 256 + m % 256 := by
  obtain ⟨n, rfl⟩ := Int.eq_ofNat_of_zero_le h
  have := @Nat.mod_mul 256 (256 ^ i) n
  have e : (256 : Nat) ^ (i + 1) = 256 * 256 ^ i := by rw [Nat.pow_succ, Nat.mul_comm]
  rw [← e] at this
  have g : ((n % 256 ^ (i + 1) : Nat) : Int) = ((n % 256 + 256 * (n / 256 % 256 ^ i) : Nat) : Int) := by rw [this]
  simp at g
  rw [g]; omega
theorem gets_puts (A R : ByteArray) (w : Nat) (n : Int) (h : 0 ≤ n) : ∀ i, i ≤ w → gets (A ++ (strOfNums (puts w n) ++ R)) A.size i = n / 256 ^ (w - i) % 256 ^ i := by
  intro i
  induction i with
  | zero => intro _; simp [gets, Int.emod_one]
  | succ i ih =>
    intro hi
    have hs : (strOfNums (puts w n)).size = w := by rw [size_strOfNums, puts_length]
    have hp : (0 : Int) ≤ 256 ^ (w - (i + 1)) := Int.le_of_lt (Int.pow_pos (by decide))
    have hm : 0 ≤ n / 256 ^ (w - (i + 1)) := Int.ediv_nonneg h hp
    rw [gets, ih (by omega), bt_right _ _ _ (by rw [ByteArray.size_append]; omega), bt_left _ _ _ (by omega), bt_nums _ _ (by rw [puts_length]; omega) (puts_byte w n), puts_at w n i (by omega), mod_step _ _ hm, Int.ediv_ediv_of_nonneg hp, ← Int.pow_succ, show (w - (i + 1)).succ = w - i by omega, show w - 1 - i = w - (i + 1) by omega]
/-- a number that was put stands there -/
theorem get_put (A R : ByteArray) (w n : Int) (h : 0 ≤ n) (w0 : 1 ≤ w) (w1 : w ≤ 8) : getR (A ++ (put w n ++ R)) A.size w = (n % 256 ^ w.toNat, A.size + w, 0) := by
  have z : (put w n).size = w.toNat := by rw [size_put]; omega
  unfold getR
  rw [if_neg (by rw [ByteArray.size_append]; omega), if_neg (by rw [ByteArray.size_append, ByteArray.size_append]; omega)]
  unfold put
  rw [show (max 0 (min w 8)).toNat = w.toNat by omega, gets_puts A R w.toNat n h w.toNat (Nat.le_refl _)]
  simp
theorem cut_mid (A B C : ByteArray) : (A ++ (B ++ C)).extract A.size (A.size + B.size) = B := by
  apply ByteArray.ext
  rw [ByteArray.data_extract, ByteArray.data_append, ByteArray.data_append]
  apply Array.ext'
  have ha : A.data.toList.length = A.size := Array.length_toList
  have hb : B.data.toList.length = B.size := Array.length_toList
  simp only [Array.toList_extract, Array.toList_append, List.extract_eq_take_drop]
  rw [List.drop_left' ha, show A.size + B.size - A.size = B.size by omega, List.take_left' hb]
end Go.Proofs.Ytpbnfnaebdmagaa.Plain
