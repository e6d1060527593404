/-
  What the functions of package words, and of its reference, come to (plain: over the printed functions).
  What Text and GetText of package words, and their references, come to.
  What Fold and Unfold of package words, and of its reference, come to.
  What a reader of values reads: plain, over any kind of value.
-/
import Derived.Test.YtjicfkmpgogppaaPOx10
import Derived.Test.YtjicfkmpgogppaaPOx18
import Derived.Test.YtjicfkmpgogppaaPOx2
import Derived.Test.YtjicfkmpgogppaaPOx5
import Derived.Test.YtjicfkmpgogppaaPlain
namespace Go.Proofs.Ytjicfkmpgogppaa.Words
set_option linter.unusedVariables false
set_option linter.unusedSimpArgs false
open Go Go.RowKit Go.Proofs.Ytjicfkmpgogppaa.Plain Go.Proofs.Ytjicfkmpgogppaa.PO Go.Proofs.YtjicfkmpgogppaaW.PrintWords Go.Proofs.YtjicfkmpgogppaaW.PrintLast Go.Proofs.YtjicfkmpgogppaaW.PrintMore

theorem shr64 (n : Int) (i : Int) (h1 : i ≤ 64) : shr .u64 n i = n / 2 ^ i.toNat := by
  unfold shr; rw [Nat.min_eq_left (by simp [IntKind.bits]; omega)]
/-! #### Put -/
theorem put_loop (d : Nat) : ∀ (k : Nat) (n : Int) (xs : List Int), 0 ≤ n → n < 18446744073709551616 → d ≤ 8 → xs.length + d ≤ 8 → d < k →
    words_Put.l0 k n xs ((d : Int) - 1) = some (strOfNums (xs ++ puts d n)) := by
  induction d with
  | zero =>
    intro k n xs h0 h1 hd hx hk
    obtain ⟨k, rfl⟩ : ∃ m, k = m + 1 := ⟨k - 1, by omega⟩
    simp only [words_Put.l0]; rw [if_neg (by omega)]; simp [puts]
  | succ d ih =>
    intro k n xs h0 h1 hd hx hk
    obtain ⟨k, rfl⟩ : ∃ m, k = m + 1 := ⟨k - 1, by omega⟩
    simp only [words_Put.l0]
    rw [show ((d + 1 : Nat) : Int) - 1 = (d : Int) by omega, if_pos (by omega), w64 (n := 8 * (d : Int)) (by omega) (by omega), if_pos (by omega), if_pos (by omega), shr64 _ _ (by omega), w64 (by omega) (by omega), ih k n _ h0 h1 (by omega) (by simp; omega) (by omega), puts_front, pow8]
    simp
theorem put_some {w n : Int} (k : Nat) (h0 : 0 ≤ n) (h1 : n < 18446744073709551616) (hk : 10 ≤ k) : words_Put.f k w n = some (put w n) := by
  unfold words_Put.f put
  have e : mx 0 (mn w 8) = ((max 0 (min w 8)).toNat : Int) := by unfold mx mn; omega
  rw [e, put_loop _ k n [] h0 h1 (by omega) (by simp; omega) (by omega)]
  simp
/-! #### Get -/
theorem or_join (x y : Int) (h0 : 0 ≤ x) (h1 : x < 72057594037927936) (k0 : 0 ≤ y) (k1 : y ≤ 255) : bits .or .u64 (x * 256) y = x * 256 + y := by
  rw [or_u64 _ _ (by omega) (by omega) k0 (by omega)]
  have e : (x * 256).toNat = 2 ^ 8 * x.toNat := by omega
  rw [e, ← Nat.two_pow_add_eq_or_of_lt (by omega)]; omega
theorem get_loop (s : ByteArray) (a w : Int) (h0 : 0 ≤ a) (h1 : a + w ≤ s.size) (hw : w ≤ 8) (hs : s.size ≤ 140737488351232 * 4) (d : Nat) : ∀ (k i : Nat), (i : Int) + d = w → d < k →
    words_Get.l0 k s a w (gets s a i) w i = some (gets s a w.toNat, a + w, 0) := by
  induction d with
  | zero =>
    intro k i hi hk
    obtain ⟨k, rfl⟩ : ∃ m, k = m + 1 := ⟨k - 1, by omega⟩
    simp only [words_Get.l0]; rw [if_neg (by omega), w64 (by omega) (by omega), show i = w.toNat by omega]
  | succ d ih =>
    intro k i hi hk
    obtain ⟨k, rfl⟩ : ∃ m, k = m + 1 := ⟨k - 1, by omega⟩
    simp only [words_Get.l0]
    have hb := bt_range s (a + i)
    have hg := gets_lt s a i
    have hm : (256 : Int) ^ i ≤ 256 ^ 7 := pow256 i (by omega)
    rw [if_pos (by omega), w64 (n := a + i) (by omega) (by omega), if_pos (by omega), if_pos (by omega), wu64, wu64, Int.emod_eq_of_lt (by omega) (by omega), Int.emod_eq_of_lt (by omega) (by omega), or_join _ _ hg.1 (by omega) hb.1 hb.2, w64 (by omega) (by omega)]
    exact ih k (i + 1) (by omega) (by omega)
theorem get_some {s : ByteArray} {a w : Int} (k : Nat) (ha : -9223372036854775808 ≤ a ∧ a ≤ 9223372036854775807) (hs : s.size ≤ 140737488351232 * 4) (hk : 12 ≤ k) : words_Get.f k s a w = some (getR s a w) := by
  unfold words_Get.f getR
  obtain ⟨k, rfl⟩ : ∃ m, k = m + 1 := ⟨k - 1, by omega⟩
  by_cases h1 : w < 1
  · rw [if_pos h1, if_pos (by omega)]; simp [words_Get.j0]
  · rw [if_neg h1]
    by_cases h2 : w > 8
    · rw [if_pos h2, if_pos (by omega)]; simp [words_Get.j0]
    · rw [if_neg h2]
      by_cases h3 : a < 0
      · rw [if_pos h3, if_pos (by omega)]; simp [words_Get.j0]
      · rw [if_neg h3]
        by_cases h4 : a > s.size
        · rw [if_pos (by omega), decide_eq_true h4]; simp [words_Get.j0]
        · rw [if_neg (by omega), decide_eq_false h4]; simp only [words_Get.j0]
          rw [if_neg (by simp), w64 (by omega) (by omega)]
          by_cases h5 : (s.size : Int) - a < w
          · rw [if_pos h5, if_pos h5]
          · rw [if_neg h5, if_neg h5]
            exact get_loop s a w (by omega) (by omega) (by omega) hs w.toNat k 0 (by omega) (by omega)
theorem rget_loop (s : ByteArray) (a w : Int) (h0 : 0 ≤ a) (h1 : a + w ≤ s.size) (hw : w ≤ 8) (hs : s.size ≤ 140737488351232 * 4) (d : Nat) : ∀ (k i : Nat), (i : Int) + d = w → d < k →
    precinctref01_Get.l0 k s a w (gets s a i) i = some (gets s a w.toNat, a + w, 0) := by
  induction d with
  | zero =>
    intro k i hi hk
    obtain ⟨k, rfl⟩ : ∃ m, k = m + 1 := ⟨k - 1, by omega⟩
    simp only [precinctref01_Get.l0]; rw [if_neg (by omega), w64 (by omega) (by omega), show i = w.toNat by omega]
  | succ d ih =>
    intro k i hi hk
    obtain ⟨k, rfl⟩ : ∃ m, k = m + 1 := ⟨k - 1, by omega⟩
    simp only [precinctref01_Get.l0]
    have hb := bt_range s (a + i)
    have hg := gets_lt s a i
    have hm : (256 : Int) ^ i ≤ 256 ^ 7 := pow256 i (by omega)
    rw [if_pos (by omega), w64 (n := a + i) (by omega) (by omega), if_pos (by omega), if_pos (by omega), wu64, wu64, wu64, Int.emod_eq_of_lt (b := 18446744073709551616) (a := gets s a i * 256) (by omega) (by omega), Int.emod_eq_of_lt (b := 18446744073709551616) (a := bt s (a + i)) (by omega) (by omega), Int.emod_eq_of_lt (by omega) (by omega), w64 (by omega) (by omega)]
    exact ih k (i + 1) (by omega) (by omega)
theorem rget_some {s : ByteArray} {a w : Int} (k : Nat) (ha : -9223372036854775808 ≤ a ∧ a ≤ 9223372036854775807) (hs : s.size ≤ 140737488351232 * 4) (hk : 12 ≤ k) : precinctref01_Get.f k s a w = some (getR s a w) := by
  unfold precinctref01_Get.f getR
  obtain ⟨k, rfl⟩ : ∃ m, k = m + 1 := ⟨k - 1, by omega⟩
  by_cases h1 : w < 1
  · rw [if_pos h1, if_pos (by omega)]; simp [precinctref01_Get.j0]
  · rw [if_neg h1]
    by_cases h2 : w > 8
    · rw [if_pos h2, if_pos (by omega)]; simp [precinctref01_Get.j0]
    · rw [if_neg h2]
      by_cases h3 : a < 0
      · rw [if_pos h3, if_pos (by omega)]; simp [precinctref01_Get.j0]
      · rw [if_neg h3]
        by_cases h4 : a > s.size
        · rw [if_pos (by omega), decide_eq_true h4]; simp [precinctref01_Get.j0]
        · rw [if_neg (by omega), decide_eq_false h4]; simp only [precinctref01_Get.j0]
          rw [if_neg (by simp), w64 (by omega) (by omega)]
          by_cases h5 : (s.size : Int) - a < w
          · rw [if_pos (by omega), if_pos h5]
          · rw [if_neg (by omega), if_neg h5]
            exact rget_loop s a w (by omega) (by omega) (by omega) hs w.toNat k 0 (by omega) (by omega)

end Go.Proofs.Ytjicfkmpgogppaa.Words
namespace Go.Proofs.Ytjicfkmpgogppaa.Words
set_option linter.unusedVariables false
set_option linter.unusedSimpArgs false
open Go Go.RowKit Go.Proofs.Ytjicfkmpgogppaa.Plain Go.Proofs.Ytjicfkmpgogppaa.PO Go.Proofs.YtjicfkmpgogppaaW.PrintWords Go.Proofs.YtjicfkmpgogppaaW.PrintLast Go.Proofs.YtjicfkmpgogppaaW.PrintMore
/-- what Text answers -/
def textR (s : ByteArray) : ByteArray × Int := if (s.size : Int) > 65535 then (⟨#[]⟩, 5) else (put 2 s.size ++ s, 0)
/-- what GetText answers -/
def gtextR (s : ByteArray) (a : Int) : ByteArray × Int × Int :=
  if (getR s a 2).2.2 = 0 then (if (s.size : Int) - (getR s a 2).2.1 < (getR s a 2).1 then (⟨#[]⟩, 0, 3)
    else (s.extract (getR s a 2).2.1.toNat ((getR s a 2).2.1 + (getR s a 2).1).toNat, (getR s a 2).2.1 + (getR s a 2).1, 0))
  else (⟨#[]⟩, 0, (getR s a 2).2.2)
theorem text_some {s : ByteArray} (k : Nat) (hs : s.size ≤ 140737488351232 * 4) (hk : 10 ≤ k) : words_Text.f k s = some (textR s) := by
  unfold words_Text.f textR
  by_cases h : (s.size : Int) > 65535
  · rw [if_pos h, if_pos h]
  · rw [if_neg h, if_neg h, wu64, Int.emod_eq_of_lt (by omega) (by omega), put_some k (by omega) (by omega) hk]
    simp only [Option.bind_some]
    rw [if_pos (by rw [size_put]; omega)]
theorem getR2 (s : ByteArray) (a : Int) : (getR s a 2).2.2 = 0 → 0 ≤ a ∧ a + 2 ≤ s.size ∧ getR s a 2 = (gets s a 2, a + 2, 0) ∧ 0 ≤ gets s a 2 ∧ gets s a 2 < 65536 := by
  unfold getR
  by_cases h : (2 : Int) < 1 ∨ (2 : Int) > 8 ∨ a < 0 ∨ a > s.size
  · rw [if_pos h]; intro h; simp at h
  · rw [if_neg h]
    by_cases g : (s.size : Int) - a < 2
    · rw [if_pos g]; intro h; simp at h
    · rw [if_neg g]; intro _
      have := gets_lt s a 2
      exact ⟨by omega, by omega, rfl, this.1, by have := this.2; simpa using this⟩
theorem gtext_some {s : ByteArray} {a : Int} (k : Nat) (ha : -9223372036854775808 ≤ a ∧ a ≤ 9223372036854775807) (hs : s.size ≤ 140737488351232 * 4) (hk : 12 ≤ k) : words_GetText.f k s a = some (gtextR s a) := by
  unfold words_GetText.f gtextR
  rw [get_some k ha hs hk]
  simp only [Option.bind_some]
  by_cases h : (getR s a 2).2.2 = 0
  · obtain ⟨a0, a1, e, g0, g1⟩ := getR2 s a h
    rw [if_pos h, if_pos h, e]
    simp only
    rw [w64 (n := (s.size : Int) - (a + 2)) (by omega) (by omega), wu64, Int.emod_eq_of_lt (by omega) (by omega)]
    by_cases c : (s.size : Int) - (a + 2) < gets s a 2
    · rw [if_pos c, if_pos c]
    · rw [if_neg c, if_neg c, if_pos (by omega), w64 (n := gets s a 2) (by omega) (by omega), w64 (by omega) (by omega), if_pos (by omega), if_pos (by omega)]
  · rw [if_neg h, if_neg h]
theorem rgtext_some {s : ByteArray} {a : Int} (k : Nat) (ha : -9223372036854775808 ≤ a ∧ a ≤ 9223372036854775807) (hs : s.size ≤ 140737488351232 * 4) (hk : 12 ≤ k) : precinctref01_GetText.f k s a = some (gtextR s a) := by
  unfold precinctref01_GetText.f gtextR
  rw [rget_some k ha hs hk]
  simp only [Option.bind_some]
  by_cases h : (getR s a 2).2.2 = 0
  · obtain ⟨a0, a1, e, g0, g1⟩ := getR2 s a h
    rw [if_pos h, if_pos h, e]
    simp only
    rw [w64 (n := (s.size : Int) - (a + 2)) (by omega) (by omega), w64 (n := gets s a 2) (by omega) (by omega)]
    by_cases c : (s.size : Int) - (a + 2) < gets s a 2
    · rw [if_pos (by omega), if_pos c]
    · rw [if_neg (by omega), if_neg c, if_pos (by omega), w64 (by omega) (by omega), if_pos (by omega), if_pos (by omega)]
  · rw [if_neg h, if_neg h]
end Go.Proofs.Ytjicfkmpgogppaa.Words
namespace Go.Proofs.Ytjicfkmpgogppaa.Words
set_option linter.unusedVariables false
set_option linter.unusedSimpArgs false
open Go Go.RowKit Go.Proofs.Ytjicfkmpgogppaa.Plain Go.Proofs.Ytjicfkmpgogppaa.PO Go.Proofs.YtjicfkmpgogppaaW.PrintWords Go.Proofs.YtjicfkmpgogppaaW.PrintLast Go.Proofs.YtjicfkmpgogppaaW.PrintMore
theorem fold_some {n : Int} (h0 : -9223372036854775808 ≤ n) (h1 : n ≤ 9223372036854775807) : words_Fold.f n = some (if 0 ≤ n then 2 * n else -2 * n - 1) := by
  unfold words_Fold.f
  rw [wu64, wu64]
  by_cases h : 0 ≤ n
  · rw [if_pos h, show n / 9223372036854775808 % 18446744073709551616 = 0 by omega, xor64_zero _ (by omega) (by omega)]
    unfold wrap64; congr 1; omega
  · rw [if_neg h, show n / 9223372036854775808 % 18446744073709551616 = 18446744073709551615 by omega, xor64_ones _ (by omega) (by omega)]
    unfold wrap64; congr 1; omega
theorem unfold_some {m : Int} (h0 : 0 ≤ m) (h1 : m < 18446744073709551616) : words_Unfold.f m = some (if m % 2 = 0 then m / 2 else -(m / 2) - 1) := by
  unfold words_Unfold.f
  rw [and_one _ h0 h1, w64 (n := m / 2) (by omega) (by omega), w64 (n := m % 2) (by omega) (by omega), w64 (n := -(m % 2)) (by omega) (by omega)]
  by_cases h : m % 2 = 0
  · rw [if_pos h, h, show (-0 : Int) = 0 by rfl, xori_zero _ (by omega) (by omega)]
  · rw [if_neg h, show m % 2 = 1 by omega, xori_neg _ (by omega) (by omega)]
theorem runfold_some {m : Int} (h0 : 0 ≤ m) (h1 : m < 18446744073709551616) : precinctref01_Unfold.f m = some (if m % 2 = 0 then m / 2 else -(m / 2) - 1) := by
  unfold precinctref01_Unfold.f
  simp only [wu64, td2 h0, tm2 h0]
  by_cases h : m % 2 = 0
  · rw [if_pos h, if_neg (by omega)]; unfold wrap64; congr 1; omega
  · rw [if_neg h, if_pos (by omega)]; unfold wrap64; congr 1; omega
end Go.Proofs.Ytjicfkmpgogppaa.Words
namespace Go.Proofs.Ytjicfkmpgogppaa.Vr
set_option linter.unusedVariables false
set_option linter.unusedSimpArgs false
open Go Go.RowKit Go.Proofs.Ytjicfkmpgogppaa.Plain Go.Proofs.Ytjicfkmpgogppaa.Words
/-- the number whose kind was read: the error, itself, the place behind it -/
def intR (s : ByteArray) (i : Int) : Int × Int × Int :=
  if (getR s i 1).2.2 = 0 then
    (if (getR s i 1).1 > 8 then (4, 0, 0) else if (getR s i 1).1 = 0 then (0, 0, (getR s i 1).2.1)
     else if (getR s (getR s i 1).2.1 (getR s i 1).1).2.2 = 0 then
       (if (getR s (getR s i 1).2.1 (getR s i 1).1).1 / 2 ^ (8 * ((getR s i 1).1 - 1)).toNat = 0 then (4, 0, 0)
        else (0, if (getR s (getR s i 1).2.1 (getR s i 1).1).1 % 2 = 0 then (getR s (getR s i 1).2.1 (getR s i 1).1).1 / 2 else -((getR s (getR s i 1).2.1 (getR s i 1).1).1 / 2) - 1, (getR s (getR s i 1).2.1 (getR s i 1).1).2.1))
     else ((getR s (getR s i 1).2.1 (getR s i 1).1).2.2, 0, 0))
  else ((getR s i 1).2.2, 0, 0)
/-- so many values: the error, they, the place behind them -/
def listR {α : Type} (f : Int → Option (Int × α × Int)) : Nat → Int → Option (Int × List α × Int)
  | 0, i => some (0, [], i)
  | n + 1, i => (f i).bind fun r => if r.1 = 0 then ((listR f n r.2.2).bind fun q => some (q.1, r.2.1 :: q.2.1, q.2.2)) else some (r.1, [], 0)
/-- a value that stands in d lists: the error, itself, the place behind it -/
def valR {α : Type} (mk : Int → Int → ByteArray → List α → α) (none_ : α) : Nat → ByteArray → Int → Int → Option (Int × α × Int)
  | 0, _, _, _ => none
  | k + 1, s, i, d =>
    if (getR s i 1).2.2 = 0 then
      (if (getR s i 1).1 = 1 then
        (if (intR s (getR s i 1).2.1).1 = 0 then some (0, mk 0 (intR s (getR s i 1).2.1).2.1 ⟨#[]⟩ [], (intR s (getR s i 1).2.1).2.2) else some ((intR s (getR s i 1).2.1).1, none_, 0))
      else if (getR s i 1).1 = 2 then
        (if (gtextR s (getR s i 1).2.1).2.2 = 0 then
          (if ((gtextR s (getR s i 1).2.1).1.size : Int) > 4096 then some (5, none_, 0) else some (0, mk 1 0 (gtextR s (getR s i 1).2.1).1 [], (gtextR s (getR s i 1).2.1).2.1))
        else some ((gtextR s (getR s i 1).2.1).2.2, none_, 0))
      else if (getR s i 1).1 = 3 then
        (if d ≥ 8 then some (5, none_, 0)
        else if (getR s (getR s i 1).2.1 2).2.2 = 0 then
          (if (getR s (getR s i 1).2.1 2).1 > 256 then some (5, none_, 0)
          else (listR (fun q => valR mk none_ k s q (d + 1)) (getR s (getR s i 1).2.1 2).1.toNat (getR s (getR s i 1).2.1 2).2.1).bind fun r => if r.1 = 0 then some (0, mk 2 0 ⟨#[]⟩ r.2.1, r.2.2) else some (r.1, none_, 0))
        else some ((getR s (getR s i 1).2.1 2).2.2, none_, 0))
      else some (4, none_, 0))
    else some ((getR s i 1).2.2, none_, 0)
end Go.Proofs.Ytjicfkmpgogppaa.Vr
