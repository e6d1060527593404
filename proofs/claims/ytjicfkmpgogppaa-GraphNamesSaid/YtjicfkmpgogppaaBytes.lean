/-
  Byte texts put one behind the other: what stands at a place of them.
-/
import Derived.Test.YtjicfkmpgogppaaPlain
namespace Go.Proofs.Ytjicfkmpgogppaa.Plain
set_option linter.unusedVariables false
set_option linter.unusedSimpArgs false
open Go Go.RowKit Go.Proofs.YtjicfkmpgogppaaW.PrintWords Go.Proofs.YtjicfkmpgogppaaW.PrintLast Go.Proofs.YtjicfkmpgogppaaW.PrintMore
theorem bt_data (s : ByteArray) (i : Nat) (h : i < s.size) : bt s i = ((s.data.toList.getD i 0).toNat : Int) := by
  unfold bt
  have hl : s.data.toList.length = s.size := Array.length_toList
  have e : (i : Int).toNat = i := by omega
  rw [dif_pos (by omega)]
  simp only [e]
  rw [List.getD_eq_getElem?_getD, List.getElem?_eq_getElem (by omega)]
  rfl
theorem data_append (A B : ByteArray) : (A ++ B).data.toList = A.data.toList ++ B.data.toList := by
  rw [ByteArray.data_append, Array.toList_append]
theorem bt_right (A B : ByteArray) (i : Nat) (h : i < B.size) : bt (A ++ B) ((A.size : Int) + i) = bt B i := by
  have e : (A.size : Int) + i = ((A.size + i : Nat) : Int) := by omega
  rw [e, bt_data _ _ (by rw [ByteArray.size_append]; omega), bt_data _ _ h, data_append]
  have hl : A.data.toList.length = A.size := Array.length_toList
  rw [List.getD_eq_getElem?_getD, List.getD_eq_getElem?_getD, List.getElem?_append_right (by omega), show A.size + i - A.data.toList.length = i by omega]
theorem bt_left (A B : ByteArray) (i : Nat) (h : i < A.size) : bt (A ++ B) i = bt A i := by
  rw [bt_data _ _ (by rw [ByteArray.size_append]; omega), bt_data _ _ h, data_append]
  have hl : A.data.toList.length = A.size := Array.length_toList
  rw [List.getD_eq_getElem?_getD, List.getD_eq_getElem?_getD, List.getElem?_append_left (by omega)]
theorem bt_nums (xs : List Int) (i : Nat) (h : i < xs.length) (hx : ∀ x ∈ xs, 0 ≤ x ∧ x < 256) : bt (strOfNums xs) i = xs.getD i 0 := by
  rw [bt_data _ _ (by rw [size_strOfNums]; exact h)]
  have e : (strOfNums xs).data.toList = xs.map fun n => UInt8.ofNat n.toNat := rfl
  have hm := hx (xs[i]) (List.getElem_mem h)
  rw [e, List.getD_eq_getElem?_getD, List.getElem?_map, List.getElem?_eq_getElem h, List.getD_eq_getElem?_getD, List.getElem?_eq_getElem h]
  simp only [Option.map_some, Option.getD_some, UInt8.toNat_ofNat']
  omega
theorem puts_byte (w : Nat) : ∀ (n : Int), ∀ x ∈ puts w n, 0 ≤ x ∧ x < 256 := by
  induction w with
  | zero => intro n x h; cases h
  | succ w ih =>
    intro n x h
    rcases List.mem_append.1 h with h | h
    · exact ih _ x h
    · rw [List.mem_singleton.1 h]; omega
theorem puts_at (w : Nat) : ∀ (n : Int) (i : Nat), i < w → (puts w n).getD i 0 = n / 256 ^ (w - 1 - i) % 256 := by
  induction w with
  | zero => intro n i h; omega
  | succ w ih =>
    intro n i h
    rw [puts_front]
    cases i with
    | zero => simp
    | succ i =>
      rw [List.getD_cons_succ, ih n i (by omega)]
      congr 3; omega
theorem mod_step (m : Int) (i : Nat) (h : 0 ≤ m) : m % 256 ^ (i + 1) = m / 256 % 256 ^ i * 256 + m % 256 := by
  obtain ⟨n, rfl⟩ := Int.eq_ofNat_of_zero_le h
  have := @Nat.mod_mul 256 (256 ^ i) n
  have e : (256 : Nat) ^ (i + 1) = 256 * 256 ^ i := by rw [Nat.pow_succ, Nat.mul_comm]
  rw [← e] at this
  have g : ((n % 256 ^ (i + 1) : Nat) : Int) = ((n % 256 + 256 * (n / 256 % 256 ^ i) : Nat) : Int) := by rw [this]
  simp at g
  rw [g]; omega
theorem gets_puts (A R : ByteArray) (w : Nat) (n : Int) (h : 0 ≤ n) : ∀ i, i ≤ w → gets (A ++ (strOfNums (puts w n) ++ R)) A.size i = n / 256 ^ (w - i) % 256 ^ i := by
  intro i
  induction i with
  | zero => intro _; simp [gets, Int.emod_one]
  | succ i ih =>
    intro hi
    have hs : (strOfNums (puts w n)).size = w := by rw [size_strOfNums, puts_length]
    have hp : (0 : Int) ≤ 256 ^ (w - (i + 1)) := Int.le_of_lt (Int.pow_pos (by decide))
    have hm : 0 ≤ n / 256 ^ (w - (i + 1)) := Int.ediv_nonneg h hp
    rw [gets, ih (by omega), bt_right _ _ _ (by rw [ByteArray.size_append]; omega), bt_left _ _ _ (by omega), bt_nums _ _ (by rw [puts_length]; omega) (puts_byte w n), puts_at w n i (by omega), mod_step _ _ hm, Int.ediv_ediv_of_nonneg hp, ← Int.pow_succ, show (w - (i + 1)).succ = w - i by omega, show w - 1 - i = w - (i + 1) by omega]
/-- a number that was put stands there -/
theorem get_put (A R : ByteArray) (w n : Int) (h : 0 ≤ n) (w0 : 1 ≤ w) (w1 : w ≤ 8) : getR (A ++ (put w n ++ R)) A.size w = (n % 256 ^ w.toNat, A.size + w, 0) := by
  have z : (put w n).size = w.toNat := by rw [size_put]; omega
  unfold getR
  rw [if_neg (by rw [ByteArray.size_append]; omega), if_neg (by rw [ByteArray.size_append, ByteArray.size_append]; omega)]
  unfold put
  rw [show (max 0 (min w 8)).toNat = w.toNat by omega, gets_puts A R w.toNat n h w.toNat (Nat.le_refl _)]
  simp
theorem cut_mid (A B C : ByteArray) : (A ++ (B ++ C)).extract A.size (A.size + B.size) = B := by
  apply ByteArray.ext
  rw [ByteArray.data_extract, ByteArray.data_append, ByteArray.data_append]
  apply Array.ext'
  have ha : A.data.toList.length = A.size := Array.length_toList
  have hb : B.data.toList.length = B.size := Array.length_toList
  simp only [Array.toList_extract, Array.toList_append, List.extract_eq_take_drop]
  rw [List.drop_left' ha, show A.size + B.size - A.size = B.size by omega, List.take_left' hb]
end Go.Proofs.Ytjicfkmpgogppaa.Plain
