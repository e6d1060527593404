/-
  What the functions of package words, and of its reference, come to (plain: over the printed functions).
  What Text and GetText of package words, and their references, come to.
  What a reader of values reads: plain, over any kind of value.
  The plain reader of a value: where it ends, that it ends, over both kinds of values.
  pack's reader: the ways that end in a panic.
  What the functions of package words, and of its reference, come to (plain: over the printed functions).
  What Text and GetText of package words, and their references, come to.
  pack.put and pack.Put: what they come to.
  pack.Put, pack.All: what they come to.
  The bytes of a value, plain: pack's are these.
  A value's bytes are read back; bytes cut off are too short; bytes that are read are the value's bytes.
-/
import Derived.Test.YtpbnfnaebdmagaaDoorH1
import Derived.Test.YtpbnfnaebdmagaaDoorH0
import Derived.LoopTactic
import Derived.Outline
import Derived.Recover
import Derived.Deep.RegionHeld3
import Derived.WalkSmall
import Derived.Lib.Hide
namespace Go.Proofs.YtpbnfnaebdmagaaDoor.Words
set_option linter.unusedVariables false
set_option linter.unusedSimpArgs false
open Go Go.RowKit Go.Proofs.YtpbnfnaebdmagaaDoor.Plain Go.Proofs.YtpbnfnaebdmagaaDoor.PT Go.Proofs.YtpbnfnaebdmagaaDoorW.PrintWords Go.Proofs.YtpbnfnaebdmagaaDoorW.PrintLast Go.Proofs.YtpbnfnaebdmagaaDoorW.PrintMore

theorem shr64 (n : Int) (i : Int) (h1 : i ≤ 64) : shr .u64 n i = n / 2 ^ i.toNat := by
  unfold shr; rw [Nat.min_eq_left (by simp [IntKind.bits]; omega)]
theorem shl64 (n : Int) (i : Int) (h1 : i ≤ 64) : shl .u64 n i = n * 2 ^ i.toNat % 18446744073709551616 := by
  unfold shl; rw [Nat.min_eq_left (by simp [IntKind.bits]; omega), wu64]
theorem shr32 (n : Int) (i : Int) (h1 : i ≤ 32) : shr .u32 n i = n / 2 ^ i.toNat := by
  unfold shr; rw [Nat.min_eq_left (by simp [IntKind.bits]; omega)]
theorem shl32 (n : Int) (i : Int) (h1 : i ≤ 32) : shl .u32 n i = n * 2 ^ i.toNat % 4294967296 := by
  unfold shl; rw [Nat.min_eq_left (by simp [IntKind.bits]; omega), wu32]

/-! #### Put -/
theorem put_loop (d : Nat) : ∀ (k : Nat) (n : Int) (xs : List Int), 0 ≤ n → n < 18446744073709551616 → d ≤ 8 → xs.length + d ≤ 8 → d < k →
    words_Put.l0 k n xs ((d : Int) - 1) = some (strOfNums (xs ++ puts d n)) := by
  induction d with
  | zero =>
    intro k n xs h0 h1 hd hx hk
    obtain ⟨k, rfl⟩ : ∃ m, k = m + 1 := ⟨k - 1, by omega⟩
    simp only [words_Put.l0]; rw [if_neg (by omega)]; simp [puts]
  | succ d ih =>
    intro k n xs h0 h1 hd hx hk
    obtain ⟨k, rfl⟩ : ∃ m, k = m + 1 := ⟨k - 1, by omega⟩
    simp only [words_Put.l0]
    rw [show ((d + 1 : Nat) : Int) - 1 = (d : Int) by omega, if_pos (by omega), w64 (n := 8 * (d : Int)) (by omega) (by omega), if_pos (by omega), if_pos (by omega), shr64 _ _ (by omega), w64 (by omega) (by omega), ih k n _ h0 h1 (by omega) (by simp; omega) (by omega), puts_front, pow8]
    simp
theorem put_some {w n : Int} (k : Nat) (h0 : 0 ≤ n) (h1 : n < 18446744073709551616) (hk : 10 ≤ k) : words_Put.f k w n = some (put w n) := by
  unfold words_Put.f put
  have e : mx 0 (mn w 8) = ((max 0 (min w 8)).toNat : Int) := by unfold mx mn; omega
  rw [e, put_loop _ k n [] h0 h1 (by omega) (by simp; omega) (by omega)]
  simp
theorem rput_loop (d : Nat) : ∀ (k : Nat) (w n : Int) (s : ByteArray) (i : Int), 0 ≤ n → n < 18446744073709551616 → 0 ≤ i → i + s.size ≤ 2 * i → i + d ≤ 8 → (max i (min w 8)) - i = d → d < k →
    precinctref01_Put.l0 k w n s i = some (strOfNums (puts d n) ++ s) := by
  induction d with
  | zero =>
    intro k w n s i h0 h1 hi hs hd hx hk
    obtain ⟨k, rfl⟩ : ∃ m, k = m + 1 := ⟨k - 1, by omega⟩
    simp only [precinctref01_Put.l0]
    have e : strOfNums (puts 0 n) ++ s = s := by simp [puts, strOfNums_nil]
    rw [e]
    by_cases h : i < w
    · rw [if_pos h, if_neg (by omega)]
    · rw [if_neg h]
  | succ d ih =>
    intro k w n s i h0 h1 hi hs hd hx hk
    obtain ⟨k, rfl⟩ : ∃ m, k = m + 1 := ⟨k - 1, by omega⟩
    simp only [precinctref01_Put.l0]
    rw [if_pos (by omega), if_pos (by omega)]
    simp only [Option.bind_some]
    have hz := size_strOfNums [Int.tmod n 256 % 256]
    simp at hz
    rw [if_pos (by omega), Int.tdiv_eq_ediv_of_nonneg h0, Int.tmod_eq_emod_of_nonneg h0, wu64, Int.emod_eq_of_lt (by omega) (by omega), w64 (by omega) (by omega)]
    rw [ih k w (n / 256) _ (i + 1) (by omega) (by omega) (by omega) (by rw [ByteArray.size_append, size_strOfNums]; simp; omega) (by omega) (by omega) (by omega)]
    simp only [puts, strOfNums_append]
    rw [ByteArray.append_assoc]
    simp
theorem rput_some {w n : Int} (k : Nat) (h0 : 0 ≤ n) (h1 : n < 18446744073709551616) (hk : 10 ≤ k) : precinctref01_Put.f k w n = some (put w n) := by
  unfold precinctref01_Put.f put
  rw [rput_loop (max 0 (min w 8)).toNat k w n _ 0 h0 h1 (by omega) (by decide) (by omega) (by omega) (by omega)]
  congr 1
  exact ByteArray.append_empty

/-! #### Get -/
theorem or_join (x y : Int) (h0 : 0 ≤ x) (h1 : x < 72057594037927936) (k0 : 0 ≤ y) (k1 : y ≤ 255) : bits .or .u64 (x * 256) y = x * 256 + y := by
  rw [or_u64 _ _ (by omega) (by omega) k0 (by omega)]
  have e : (x * 256).toNat = 2 ^ 8 * x.toNat := by omega
  rw [e, ← Nat.two_pow_add_eq_or_of_lt (by omega)]; omega
theorem get_loop (s : ByteArray) (a w : Int) (h0 : 0 ≤ a) (h1 : a + w ≤ s.size) (hw : w ≤ 8) (hs : s.size ≤ 140737488351232 * 4) (d : Nat) : ∀ (k i : Nat), (i : Int) + d = w → d < k →
    words_Get.l0 k s a w (gets s a i) w i = some (gets s a w.toNat, a + w, 0) := by
  induction d with
  | zero =>
    intro k i hi hk
    obtain ⟨k, rfl⟩ : ∃ m, k = m + 1 := ⟨k - 1, by omega⟩
    simp only [words_Get.l0]; rw [if_neg (by omega), w64 (by omega) (by omega), show i = w.toNat by omega]
  | succ d ih =>
    intro k i hi hk
    obtain ⟨k, rfl⟩ : ∃ m, k = m + 1 := ⟨k - 1, by omega⟩
    simp only [words_Get.l0]
    have hb := bt_range s (a + i)
    have hg := gets_lt s a i
    have hm : (256 : Int) ^ i ≤ 256 ^ 7 := pow256 i (by omega)
    rw [if_pos (by omega), w64 (n := a + i) (by omega) (by omega), if_pos (by omega), if_pos (by omega), wu64, wu64, Int.emod_eq_of_lt (by omega) (by omega), Int.emod_eq_of_lt (by omega) (by omega), or_join _ _ hg.1 (by omega) hb.1 hb.2, w64 (by omega) (by omega)]
    exact ih k (i + 1) (by omega) (by omega)
theorem get_some {s : ByteArray} {a w : Int} (k : Nat) (ha : -9223372036854775808 ≤ a ∧ a ≤ 9223372036854775807) (hs : s.size ≤ 140737488351232 * 4) (hk : 12 ≤ k) : words_Get.f k s a w = some (getR s a w) := by
  unfold words_Get.f getR
  obtain ⟨k, rfl⟩ : ∃ m, k = m + 1 := ⟨k - 1, by omega⟩
  by_cases h1 : w < 1
  · rw [if_pos h1, if_pos (by omega)]; simp [words_Get.j0]
  · rw [if_neg h1]
    by_cases h2 : w > 8
    · rw [if_pos h2, if_pos (by omega)]; simp [words_Get.j0]
    · rw [if_neg h2]
      by_cases h3 : a < 0
      · rw [if_pos h3, if_pos (by omega)]; simp [words_Get.j0]
      · rw [if_neg h3]
        by_cases h4 : a > s.size
        · rw [if_pos (by omega), decide_eq_true h4]; simp [words_Get.j0]
        · rw [if_neg (by omega), decide_eq_false h4]; simp only [words_Get.j0]
          rw [if_neg (by simp), w64 (by omega) (by omega)]
          by_cases h5 : (s.size : Int) - a < w
          · rw [if_pos h5, if_pos h5]
          · rw [if_neg h5, if_neg h5]
            exact get_loop s a w (by omega) (by omega) (by omega) hs w.toNat k 0 (by omega) (by omega)
theorem rget_loop (s : ByteArray) (a w : Int) (h0 : 0 ≤ a) (h1 : a + w ≤ s.size) (hw : w ≤ 8) (hs : s.size ≤ 140737488351232 * 4) (d : Nat) : ∀ (k i : Nat), (i : Int) + d = w → d < k →
    precinctref01_Get.l0 k s a w (gets s a i) i = some (gets s a w.toNat, a + w, 0) := by
  induction d with
  | zero =>
    intro k i hi hk
    obtain ⟨k, rfl⟩ : ∃ m, k = m + 1 := ⟨k - 1, by omega⟩
    simp only [precinctref01_Get.l0]; rw [if_neg (by omega), w64 (by omega) (by omega), show i = w.toNat by omega]
  | succ d ih =>
    intro k i hi hk
    obtain ⟨k, rfl⟩ : ∃ m, k = m + 1 := ⟨k - 1, by omega⟩
    simp only [precinctref01_Get.l0]
    have hb := bt_range s (a + i)
    have hg := gets_lt s a i
    have hm : (256 : Int) ^ i ≤ 256 ^ 7 := pow256 i (by omega)
    rw [if_pos (by omega), w64 (n := a + i) (by omega) (by omega), if_pos (by omega), if_pos (by omega), wu64, wu64, wu64, Int.emod_eq_of_lt (b := 18446744073709551616) (a := gets s a i * 256) (by omega) (by omega), Int.emod_eq_of_lt (b := 18446744073709551616) (a := bt s (a + i)) (by omega) (by omega), Int.emod_eq_of_lt (by omega) (by omega), w64 (by omega) (by omega)]
    exact ih k (i + 1) (by omega) (by omega)
theorem rget_some {s : ByteArray} {a w : Int} (k : Nat) (ha : -9223372036854775808 ≤ a ∧ a ≤ 9223372036854775807) (hs : s.size ≤ 140737488351232 * 4) (hk : 12 ≤ k) : precinctref01_Get.f k s a w = some (getR s a w) := by
  unfold precinctref01_Get.f getR
  obtain ⟨k, rfl⟩ : ∃ m, k = m + 1 := ⟨k - 1, by omega⟩
  by_cases h1 : w < 1
  · rw [if_pos h1, if_pos (by omega)]; simp [precinctref01_Get.j0]
  · rw [if_neg h1]
    by_cases h2 : w > 8
    · rw [if_pos h2, if_pos (by omega)]; simp [precinctref01_Get.j0]
    · rw [if_neg h2]
      by_cases h3 : a < 0
      · rw [if_pos h3, if_pos (by omega)]; simp [precinctref01_Get.j0]
      · rw [if_neg h3]
        by_cases h4 : a > s.size
        · rw [if_pos (by omega), decide_eq_true h4]; simp [precinctref01_Get.j0]
        · rw [if_neg (by omega), decide_eq_false h4]; simp only [precinctref01_Get.j0]
          rw [if_neg (by simp), w64 (by omega) (by omega)]
          by_cases h5 : (s.size : Int) - a < w
          · rw [if_pos (by omega), if_pos h5]
          · rw [if_neg (by omega), if_neg h5]
            exact rget_loop s a w (by omega) (by omega) (by omega) hs w.toNat k 0 (by omega) (by omega)

end Go.Proofs.YtpbnfnaebdmagaaDoor.Words
namespace Go.Proofs.YtpbnfnaebdmagaaDoor.Words
set_option linter.unusedVariables false
set_option linter.unusedSimpArgs false
open Go Go.RowKit Go.Proofs.YtpbnfnaebdmagaaDoor.Plain Go.Proofs.YtpbnfnaebdmagaaDoor.PT Go.Proofs.YtpbnfnaebdmagaaDoorW.PrintWords Go.Proofs.YtpbnfnaebdmagaaDoorW.PrintLast Go.Proofs.YtpbnfnaebdmagaaDoorW.PrintMore
/-- what Text answers -/
def textR (s : ByteArray) : ByteArray × Int := if (s.size : Int) > 65535 then (⟨#[]⟩, 5) else (put 2 s.size ++ s, 0)
/-- what GetText answers -/
def gtextR (s : ByteArray) (a : Int) : ByteArray × Int × Int :=
  if (getR s a 2).2.2 = 0 then (if (s.size : Int) - (getR s a 2).2.1 < (getR s a 2).1 then (⟨#[]⟩, 0, 3)
    else (s.extract (getR s a 2).2.1.toNat ((getR s a 2).2.1 + (getR s a 2).1).toNat, (getR s a 2).2.1 + (getR s a 2).1, 0))
  else (⟨#[]⟩, 0, (getR s a 2).2.2)
theorem text_some {s : ByteArray} (k : Nat) (hs : s.size ≤ 140737488351232 * 4) (hk : 10 ≤ k) : words_Text.f k s = some (textR s) := by
  unfold words_Text.f textR
  by_cases h : (s.size : Int) > 65535
  · rw [if_pos h, if_pos h]
  · rw [if_neg h, if_neg h, wu64, Int.emod_eq_of_lt (by omega) (by omega), put_some k (by omega) (by omega) hk]
    simp only [Option.bind_some]
    rw [if_pos (by rw [size_put]; omega)]
theorem rtext_some {s : ByteArray} (k : Nat) (hs : s.size ≤ 140737488351232 * 4) (hk : 10 ≤ k) : precinctref01_Text.f k s = some (textR s) := by
  unfold precinctref01_Text.f textR
  by_cases h : (s.size : Int) > 65535
  · rw [if_pos h, if_pos h]
  · rw [if_neg h, if_neg h, wu64, Int.emod_eq_of_lt (by omega) (by omega), rput_some k (by omega) (by omega) hk]
    simp only [Option.bind_some]
    rw [if_pos (by rw [size_put]; omega)]
theorem getR2 (s : ByteArray) (a : Int) : (getR s a 2).2.2 = 0 → 0 ≤ a ∧ a + 2 ≤ s.size ∧ getR s a 2 = (gets s a 2, a + 2, 0) ∧ 0 ≤ gets s a 2 ∧ gets s a 2 < 65536 := by
  unfold getR
  by_cases h : (2 : Int) < 1 ∨ (2 : Int) > 8 ∨ a < 0 ∨ a > s.size
  · rw [if_pos h]; intro h; simp at h
  · rw [if_neg h]
    by_cases g : (s.size : Int) - a < 2
    · rw [if_pos g]; intro h; simp at h
    · rw [if_neg g]; intro _
      have := gets_lt s a 2
      exact ⟨by omega, by omega, rfl, this.1, by have := this.2; simpa using this⟩
theorem gtext_some {s : ByteArray} {a : Int} (k : Nat) (ha : -9223372036854775808 ≤ a ∧ a ≤ 9223372036854775807) (hs : s.size ≤ 140737488351232 * 4) (hk : 12 ≤ k) : words_GetText.f k s a = some (gtextR s a) := by
  unfold words_GetText.f gtextR
  rw [get_some k ha hs hk]
  simp only [Option.bind_some]
  by_cases h : (getR s a 2).2.2 = 0
  · obtain ⟨a0, a1, e, g0, g1⟩ := getR2 s a h
    rw [if_pos h, if_pos h, e]
    simp only
    rw [w64 (n := (s.size : Int) - (a + 2)) (by omega) (by omega), wu64, Int.emod_eq_of_lt (by omega) (by omega)]
    by_cases c : (s.size : Int) - (a + 2) < gets s a 2
    · rw [if_pos c, if_pos c]
    · rw [if_neg c, if_neg c, if_pos (by omega), w64 (n := gets s a 2) (by omega) (by omega), w64 (by omega) (by omega), if_pos (by omega), if_pos (by omega)]
  · rw [if_neg h, if_neg h]
theorem rgtext_some {s : ByteArray} {a : Int} (k : Nat) (ha : -9223372036854775808 ≤ a ∧ a ≤ 9223372036854775807) (hs : s.size ≤ 140737488351232 * 4) (hk : 12 ≤ k) : precinctref01_GetText.f k s a = some (gtextR s a) := by
  unfold precinctref01_GetText.f gtextR
  rw [rget_some k ha hs hk]
  simp only [Option.bind_some]
  by_cases h : (getR s a 2).2.2 = 0
  · obtain ⟨a0, a1, e, g0, g1⟩ := getR2 s a h
    rw [if_pos h, if_pos h, e]
    simp only
    rw [w64 (n := (s.size : Int) - (a + 2)) (by omega) (by omega), w64 (n := gets s a 2) (by omega) (by omega)]
    by_cases c : (s.size : Int) - (a + 2) < gets s a 2
    · rw [if_pos (by omega), if_pos c]
    · rw [if_neg (by omega), if_neg c, if_pos (by omega), w64 (by omega) (by omega), if_pos (by omega), if_pos (by omega)]
  · rw [if_neg h, if_neg h]
end Go.Proofs.YtpbnfnaebdmagaaDoor.Words
namespace Go.Proofs.YtpbnfnaebdmagaaDoor.Vr
set_option linter.unusedVariables false
set_option linter.unusedSimpArgs false
open Go Go.RowKit Go.Proofs.YtpbnfnaebdmagaaDoor.Plain Go.Proofs.YtpbnfnaebdmagaaDoor.Words
/-- the number whose kind was read: the error, itself, the place behind it -/
def intR (s : ByteArray) (i : Int) : Int × Int × Int :=
  if (getR s i 1).2.2 = 0 then
    (if (getR s i 1).1 > 8 then (4, 0, 0) else if (getR s i 1).1 = 0 then (0, 0, (getR s i 1).2.1)
     else if (getR s (getR s i 1).2.1 (getR s i 1).1).2.2 = 0 then
       (if (getR s (getR s i 1).2.1 (getR s i 1).1).1 / 2 ^ (8 * ((getR s i 1).1 - 1)).toNat = 0 then (4, 0, 0)
        else (0, if (getR s (getR s i 1).2.1 (getR s i 1).1).1 % 2 = 0 then (getR s (getR s i 1).2.1 (getR s i 1).1).1 / 2 else -((getR s (getR s i 1).2.1 (getR s i 1).1).1 / 2) - 1, (getR s (getR s i 1).2.1 (getR s i 1).1).2.1))
     else ((getR s (getR s i 1).2.1 (getR s i 1).1).2.2, 0, 0))
  else ((getR s i 1).2.2, 0, 0)
/-- so many values: the error, they, the place behind them -/
def listR {α : Type} (f : Int → Option (Int × α × Int)) : Nat → Int → Option (Int × List α × Int)
  | 0, i => some (0, [], i)
  | n + 1, i => (f i).bind fun r => if r.1 = 0 then ((listR f n r.2.2).bind fun q => some (q.1, r.2.1 :: q.2.1, q.2.2)) else some (r.1, [], 0)
/-- a value that stands in d lists: the error, itself, the place behind it -/
def valR {α : Type} (mk : Int → Int → ByteArray → List α → α) (none_ : α) : Nat → ByteArray → Int → Int → Option (Int × α × Int)
  | 0, _, _, _ => none
  | k + 1, s, i, d =>
    if (getR s i 1).2.2 = 0 then
      (if (getR s i 1).1 = 1 then
        (if (intR s (getR s i 1).2.1).1 = 0 then some (0, mk 0 (intR s (getR s i 1).2.1).2.1 ⟨#[]⟩ [], (intR s (getR s i 1).2.1).2.2) else some ((intR s (getR s i 1).2.1).1, none_, 0))
      else if (getR s i 1).1 = 2 then
        (if (gtextR s (getR s i 1).2.1).2.2 = 0 then
          (if ((gtextR s (getR s i 1).2.1).1.size : Int) > 4096 then some (5, none_, 0) else some (0, mk 1 0 (gtextR s (getR s i 1).2.1).1 [], (gtextR s (getR s i 1).2.1).2.1))
        else some ((gtextR s (getR s i 1).2.1).2.2, none_, 0))
      else if (getR s i 1).1 = 3 then
        (if d ≥ 8 then some (5, none_, 0)
        else if (getR s (getR s i 1).2.1 2).2.2 = 0 then
          (if (getR s (getR s i 1).2.1 2).1 > 256 then some (5, none_, 0)
          else (listR (fun q => valR mk none_ k s q (d + 1)) (getR s (getR s i 1).2.1 2).1.toNat (getR s (getR s i 1).2.1 2).2.1).bind fun r => if r.1 = 0 then some (0, mk 2 0 ⟨#[]⟩ r.2.1, r.2.2) else some (r.1, none_, 0))
        else some ((getR s (getR s i 1).2.1 2).2.2, none_, 0))
      else some (4, none_, 0))
    else some ((getR s i 1).2.2, none_, 0)
end Go.Proofs.YtpbnfnaebdmagaaDoor.Vr
namespace Go.Proofs.YtpbnfnaebdmagaaDoor.Rr
set_option linter.unusedVariables false
set_option linter.unusedSimpArgs false
open Go Go.RowKit Go.Proofs.YtpbnfnaebdmagaaDoor.Plain Go.Proofs.YtpbnfnaebdmagaaDoor.Words Go.Proofs.YtpbnfnaebdmagaaDoor.Vr Go.Proofs.YtpbnfnaebdmagaaDoor.Vs Go.Proofs.YtpbnfnaebdmagaaDoor.PT Go.Proofs.YtpbnfnaebdmagaaDoorW.PrintWords Go.Proofs.YtpbnfnaebdmagaaDoorW.PrintLast Go.Proofs.YtpbnfnaebdmagaaDoorW.PrintMore
abbrev mkW (a b : Int) (c : ByteArray) (l : List W) : W := ⟨a, b, c, l⟩
abbrev noW : W := ⟨0, 0, ⟨#[]⟩, []⟩
abbrev mkV (a b : Int) (c : ByteArray) (l : List V) : V := ⟨a, b, c, l⟩
abbrev noV : V := ⟨0, 0, ⟨#[]⟩, []⟩
/-- a number's first byte -/
theorem gets_top (s : ByteArray) (a : Int) : ∀ m : Nat, gets s a (m + 1) / 256 ^ m = bt s a
  | 0 => by simp [gets]
  | m + 1 => by
    have ih := gets_top s a m
    have hb := bt_range s (a + (m + 1 : Nat))
    rw [gets, Int.pow_succ, Int.mul_comm (256 ^ m) 256, ← Int.ediv_ediv_of_nonneg (by decide : (0 : Int) ≤ 256)]
    rw [show (gets s a (m + 1) * 256 + bt s (a + (m + 1 : Nat))) / 256 = gets s a (m + 1) by omega]
    exact ih
theorem gbounds (s : ByteArray) (a w : Int) (h : (getR s a w).2.2 = 0) : 0 ≤ (getR s a w).1 ∧ (getR s a w).1 < 18446744073709551616 ∧ 0 ≤ a ∧ 1 ≤ w ∧ w ≤ 8 ∧ a + w ≤ s.size ∧ (getR s a w).2.1 = a + w ∧ (getR s a w).1 = gets s a w.toNat := by
  unfold getR at h ⊢
  split
  · rename_i h1; rw [if_pos h1] at h; simp at h
  · rename_i h1
    split
    · rename_i h2; rw [if_neg h1, if_pos h2] at h; simp at h
    · rename_i h2
      have b := gets_lt s a w.toNat
      refine ⟨b.1, ?_, by omega, by omega, by omega, by omega, rfl, rfl⟩
      have : (256 : Int) ^ w.toNat ≤ 256 ^ 8 := by
        rcases (by omega : w.toNat = 0 ∨ w.toNat = 1 ∨ w.toNat = 2 ∨ w.toNat = 3 ∨ w.toNat = 4 ∨ w.toNat = 5 ∨ w.toNat = 6 ∨ w.toNat = 7 ∨ w.toNat = 8) with h | h | h | h | h | h | h | h | h <;> rw [h] <;> decide
      have e8 : (256 : Int) ^ 8 = 18446744073709551616 := by decide
      simp only
      omega
/-- the width's first byte is nought just where the number shifted is -/
theorem top_zero {s : ByteArray} {q w : Int} (h : (getR s q w).2.2 = 0) : (getR s q w).1 / 2 ^ (8 * (w - 1)).toNat = bt s q := by
  have b := gbounds s q w h
  rw [b.2.2.2.2.2.2.2]
  obtain ⟨m, hm⟩ : ∃ m : Nat, w = m + 1 := ⟨(w - 1).toNat, by omega⟩
  rw [show w.toNat = m + 1 by omega, show (8 * (w - 1)) = 8 * (m : Int) by omega, pow8]
  exact gets_top s q m
theorem valR_place {α : Type} {mk : Int → Int → ByteArray → List α → α} {no : α} (s : ByteArray) : ∀ (k : Nat) (i d : Int) r, 0 ≤ i → i ≤ s.size → valR mk no k s i d = some r → (r.1 = 0 → 0 ≤ r.2.2 ∧ r.2.2 ≤ s.size) ∧ (r.1 ≠ 0 → r.2 = (no, 0)) := by
  intro k
  induction k with
  | zero => intro i d r _ _ h; simp [valR] at h
  | succ k ih =>
    intro i d r h0 h1 h
    have hl : ∀ (f : Int → Option (Int × α × Int)) (_ : ∀ (q : Int) r, 0 ≤ q → q ≤ s.size → f q = some r → r.1 = 0 → 0 ≤ r.2.2 ∧ r.2.2 ≤ s.size) (n : Nat) (q : Int) (r : Int × List α × Int), 0 ≤ q → q ≤ s.size → listR f n q = some r → r.1 = 0 → 0 ≤ r.2.2 ∧ r.2.2 ≤ s.size := by
      intro f hf n
      induction n with
      | zero => intro q r q0 q1 h _; simp only [listR, Option.some.injEq] at h; subst h; exact ⟨q0, q1⟩
      | succ n ihn =>
        intro q r q0 q1 h he
        simp only [listR] at h
        obtain ⟨⟨e, x, p⟩, hx, h⟩ := Option.bind_eq_some_iff.mp h
        dsimp only at h
        by_cases c : e = 0
        · rw [if_pos c] at h
          obtain ⟨⟨e2, l2, p2⟩, hy, h⟩ := Option.bind_eq_some_iff.mp h
          simp only [Option.some.injEq] at h; subst h
          have b := hf q _ q0 q1 hx c
          exact ihn p (e2, l2, p2) b.1 b.2 hy he
        · rw [if_neg c] at h
          simp only [Option.some.injEq] at h; subst h; exact absurd he c
    simp only [valR] at h
    by_cases c1 : (getR s i 1).2.2 = 0
    · rw [if_pos c1] at h
      have b1 := gbounds s i 1 c1
      by_cases k1 : (getR s i 1).1 = 1
      · rw [if_pos k1] at h
        by_cases c2 : (intR s (getR s i 1).2.1).1 = 0
        · rw [if_pos c2] at h
          simp only [Option.some.injEq] at h; subst h
          refine ⟨fun _ => ?_, fun he => absurd rfl he⟩
          unfold intR at c2 ⊢
          by_cases d1 : (getR s (getR s i 1).2.1 1).2.2 = 0
          · have b2 := gbounds s _ 1 d1
            rw [if_pos d1] at c2 ⊢
            by_cases d2 : (getR s (getR s i 1).2.1 1).1 > 8
            · rw [if_pos d2] at c2; simp at c2
            rw [if_neg d2] at c2 ⊢
            by_cases d3 : (getR s (getR s i 1).2.1 1).1 = 0
            · rw [if_pos d3]; show 0 ≤ (getR s (getR s i 1).2.1 1).2.1 ∧ (getR s (getR s i 1).2.1 1).2.1 ≤ s.size; omega
            rw [if_neg d3] at c2 ⊢
            by_cases d4 : (getR s (getR s (getR s i 1).2.1 1).2.1 (getR s (getR s i 1).2.1 1).1).2.2 = 0
            · rw [if_pos d4] at c2 ⊢
              have b3 := gbounds s _ _ d4
              by_cases d5 : (getR s (getR s (getR s i 1).2.1 1).2.1 (getR s (getR s i 1).2.1 1).1).1 / 2 ^ (8 * ((getR s (getR s i 1).2.1 1).1 - 1)).toNat = 0
              · rw [if_pos d5] at c2; simp at c2
              rw [if_neg d5]
              show 0 ≤ (getR s (getR s (getR s i 1).2.1 1).2.1 (getR s (getR s i 1).2.1 1).1).2.1 ∧ (getR s (getR s (getR s i 1).2.1 1).2.1 (getR s (getR s i 1).2.1 1).1).2.1 ≤ s.size
              omega
            · rw [if_neg d4] at c2; exact absurd c2 d4
          · rw [if_neg d1] at c2; exact absurd c2 d1
        · rw [if_neg c2] at h
          simp only [Option.some.injEq] at h; subst h
          exact ⟨fun he => absurd he c2, fun _ => rfl⟩
      rw [if_neg k1] at h
      by_cases k2 : (getR s i 1).1 = 2
      · rw [if_pos k2] at h
        by_cases c2 : (gtextR s (getR s i 1).2.1).2.2 = 0
        · rw [if_pos c2] at h
          by_cases c3 : ((gtextR s (getR s i 1).2.1).1.size : Int) > 4096
          · rw [if_pos c3] at h
            simp only [Option.some.injEq] at h; subst h
            exact ⟨fun he => by simp at he, fun _ => rfl⟩
          · rw [if_neg c3] at h
            simp only [Option.some.injEq] at h; subst h
            refine ⟨fun _ => ?_, fun he => absurd rfl he⟩
            unfold gtextR at c2 ⊢
            by_cases d1 : (getR s (getR s i 1).2.1 2).2.2 = 0
            · rw [if_pos d1] at c2 ⊢
              have b2 := gbounds s _ 2 d1
              by_cases d2 : (s.size : Int) - (getR s (getR s i 1).2.1 2).2.1 < (getR s (getR s i 1).2.1 2).1
              · rw [if_pos d2] at c2; simp at c2
              rw [if_neg d2]
              show 0 ≤ (getR s (getR s i 1).2.1 2).2.1 + (getR s (getR s i 1).2.1 2).1 ∧ (getR s (getR s i 1).2.1 2).2.1 + (getR s (getR s i 1).2.1 2).1 ≤ s.size
              omega
            · rw [if_neg d1] at c2; exact absurd c2 d1
        · rw [if_neg c2] at h
          simp only [Option.some.injEq] at h; subst h
          exact ⟨fun he => absurd he c2, fun _ => rfl⟩
      rw [if_neg k2] at h
      by_cases k3 : (getR s i 1).1 = 3
      · rw [if_pos k3] at h
        by_cases c2 : d ≥ 8
        · rw [if_pos c2] at h
          simp only [Option.some.injEq] at h; subst h
          exact ⟨fun he => by simp at he, fun _ => rfl⟩
        rw [if_neg c2] at h
        by_cases c3 : (getR s (getR s i 1).2.1 2).2.2 = 0
        · rw [if_pos c3] at h
          have b2 := gbounds s _ 2 c3
          by_cases c4 : (getR s (getR s i 1).2.1 2).1 > 256
          · rw [if_pos c4] at h
            simp only [Option.some.injEq] at h; subst h
            exact ⟨fun he => by simp at he, fun _ => rfl⟩
          rw [if_neg c4] at h
          obtain ⟨⟨e, l, q⟩, hx, h⟩ := Option.bind_eq_some_iff.mp h
          dsimp only at h
          by_cases c5 : e = 0
          · rw [if_pos c5] at h
            simp only [Option.some.injEq] at h; subst h
            exact ⟨fun _ => hl _ (fun q r q0 q1 hq he => (ih q (d + 1) r q0 q1 hq).1 he) _ _ _ (by omega) (by omega) hx c5, fun he => absurd rfl he⟩
          · rw [if_neg c5] at h
            simp only [Option.some.injEq] at h; subst h
            exact ⟨fun he => absurd he c5, fun _ => rfl⟩
        · rw [if_neg c3] at h
          simp only [Option.some.injEq] at h; subst h
          exact ⟨fun he => absurd he c3, fun _ => rfl⟩
      rw [if_neg k3] at h
      simp only [Option.some.injEq] at h; subst h
      exact ⟨fun he => by simp at he, fun _ => rfl⟩
    · rw [if_neg c1] at h
      simp only [Option.some.injEq] at h; subst h
      exact ⟨fun he => absurd he c1, fun _ => rfl⟩
/-- the plain reader always answers, when it may go so deep -/
theorem valR_total {α : Type} (mk : Int → Int → ByteArray → List α → α) (no : α) (s : ByteArray) : ∀ (k : Nat) (i d : Int), 0 ≤ d → d ≤ 8 → 8 - d < k → ∃ r, valR mk no k s i d = some r
  | 0, i, d, h0, h8, h => by
    omega
  | k + 1, i, d, h0, h8, h => by
    have hl : ∀ (f : Int → Option (Int × α × Int)) (_ : ∀ q, ∃ r, f q = some r) (n : Nat) (q : Int), ∃ r, listR f n q = some r := by
      intro f hf n
      induction n with
      | zero => exact fun q => ⟨_, rfl⟩
      | succ n ihn =>
        intro q
        obtain ⟨r, hr⟩ := hf q
        obtain ⟨r2, hr2⟩ := ihn r.2.2
        simp only [listR, hr, Option.bind_some, hr2]
        by_cases c : r.1 = 0
        · exact ⟨_, if_pos c⟩
        · exact ⟨_, if_neg c⟩
    simp only [valR]
    repeat' (first | exact ⟨_, rfl⟩ | split)
    rename_i hd _ _
    obtain ⟨r, hr⟩ := hl (fun q => valR mk no k s q (d + 1)) (fun q => valR_total mk no s k q (d + 1) (by omega) (by omega) (by omega)) (getR s (getR s i 1).2.1 2).1.toNat (getR s (getR s i 1).2.1 2).2.1
    rw [hr, Option.bind_some]
    by_cases c : r.1 = 0
    · exact ⟨_, if_pos c⟩
    · exact ⟨_, if_neg c⟩
/-- both readers go alike -/
theorem listR_to (f : Int → Option (Int × V × Int)) (g : Int → Option (Int × W × Int)) (h : ∀ q, g q = (f q).map (fun r => (r.1, toW r.2.1, r.2.2))) : ∀ (n : Nat) (q : Int), listR g n q = (listR f n q).map (fun r => (r.1, toWs r.2.1, r.2.2))
  | 0, q => rfl
  | n + 1, q => by
    simp only [listR, h q]
    cases hq : f q with
    | none => rfl
    | some r =>
      simp only [Option.map_some, Option.bind_some]
      by_cases c : r.1 = 0
      · rw [if_pos c, if_pos c, listR_to f g h n r.2.2]
        cases listR f n r.2.2 with
        | none => rfl
        | some x => rfl
      · rw [if_neg c, if_neg c]; rfl
theorem valR_to (s : ByteArray) : ∀ (k : Nat) (i d : Int), valR mkW noW k s i d = (valR mkV noV k s i d).map (fun r => (r.1, toW r.2.1, r.2.2))
  | 0, _, _ => rfl
  | k + 1, i, d => by
    simp only [valR]
    repeat' (first | rfl | split)
    rw [listR_to (fun q => valR mkV noV k s q (d + 1)) (fun q => valR mkW noW k s q (d + 1)) (fun q => valR_to s k q (d + 1))]
    cases listR (fun q => valR mkV noV k s q (d + 1)) (getR s (getR s i 1).2.1 2).1.toNat (getR s (getR s i 1).2.1 2).2.1 with
    | none => rfl
    | some x =>
      simp only [Option.map_some, Option.bind_some]
      by_cases c : x.1 = 0
      · rw [if_pos c, if_pos c]; rfl
      · rw [if_neg c, if_neg c]; rfl
/-- what is read has short lists -/
theorem listR_small (f : Int → Option (Int × V × Int)) (h : ∀ q r, f q = some r → Small r.2.1) : ∀ (n : Nat) (q : Int) r, listR f n q = some r → r.2.1.length ≤ n ∧ ∀ x ∈ r.2.1, Small x
  | 0, q, r, e => by
    simp only [listR, Option.some.injEq] at e; subst e; simp
  | n + 1, q, r, e => by
    simp only [listR] at e
    obtain ⟨⟨e1, x, p⟩, hx, e⟩ := Option.bind_eq_some_iff.mp e
    dsimp only at e
    by_cases c : e1 = 0
    · rw [if_pos c] at e
      obtain ⟨y, hy, e⟩ := Option.bind_eq_some_iff.mp e
      simp only [Option.some.injEq] at e; subst e
      have ih := listR_small f h n p y hy
      have hs := h q _ hx
      refine ⟨by simp only [List.length_cons]; omega, fun z hz => ?_⟩
      rcases List.mem_cons.mp hz with rfl | hz
      · exact hs
      · exact ih.2 z hz
    · rw [if_neg c] at e
      simp only [Option.some.injEq] at e; subst e; simp
theorem small_no : Small noV := by rw [Small_eq]; simp
theorem valR_small (s : ByteArray) : ∀ (k : Nat) (i d : Int) r, valR mkV noV k s i d = some r → Small r.2.1
  | 0, _, _, r, e => by simp [valR] at e
  | k + 1, i, d, r, e => by
    simp only [valR] at e
    repeat' (split at e)
    all_goals first
      | (simp only [Option.some.injEq] at e; subst e; first | exact small_no | (rw [Small_eq]; simp))
      | skip
    obtain ⟨y, hy, e⟩ := Option.bind_eq_some_iff.mp e
    rename_i hc
    have ih := listR_small (fun q => valR mkV noV k s q (d + 1)) (fun q r hr => valR_small s k q (d + 1) r hr) _ _ _ hy
    by_cases c : y.1 = 0
    · rw [if_pos c] at e
      simp only [Option.some.injEq] at e; subst e
      rw [Small_eq]
      exact ⟨by show y.2.1.length ≤ 1000; omega, ih.2⟩
    · rw [if_neg c] at e
      simp only [Option.some.injEq] at e; subst e; exact small_no
end Go.Proofs.YtpbnfnaebdmagaaDoor.Rr
namespace Go.Proofs.YtpbnfnaebdmagaaDoor.Rd
set_option linter.unusedVariables false
set_option linter.unusedSimpArgs false
open Go Go.RowKit Go.Proofs.YtpbnfnaebdmagaaDoor.Mt Go.Proofs.YtpbnfnaebdmagaaDoor.PT Go.Proofs.YtpbnfnaebdmagaaDoorW.PrintWords Go.Proofs.YtpbnfnaebdmagaaDoorW.PrintLast Go.Proofs.YtpbnfnaebdmagaaDoorW.PrintMore
abbrev blkR (s : ByteArray) (i : Int) : Obj := .cells #[.string s, .int .i64 i] 73 (0, 0)
set_option maxHeartbeats 4000000 in
set_option maxRecDepth 100000 in
theorem number_bad (s : ByteArray) (i wd n i2 c : Int) (g : Nat) (w : World) (hb : w.heap[g]? = some (blkR s i)) (hc : c ≠ 0) (h : words_Get.f 20 s i wd = some (n, i2, c)) :
    Calls Tryd.prog 49 #[.pointer (some ⟨g, 0, none⟩), .int .i64 wd] w fun e w' => e = .panicked [fault c] ∧ ∃ n_, w' = w.drewN n_ := by
  have HF := Aside0.mk h
  have HC := Aside0.mk hc
  have c0 : w.cell? ⟨g, 0, none⟩ = some (.string s) := (blk_cell hb 0).trans rfl
  have c1 : w.cell? ⟨g, 1, none⟩ = some (.int .i64 i) := (blk_cell hb 1).trans rfl
  have f0 := blk_frozen hb 0
  have f1 := blk_frozen hb 1
  clear h hb hc
  have hu := Tryd.underlying73
  go_enter Tryd.func49, Tryd.ntmps49
  go_wp2
  go_region_held3 (fun w' => w'.cell? ⟨g, 0, none⟩ = some (.string s) ∧ w'.cell? ⟨g, 1, none⟩ = some (.int .i64 i)) (go_keep)
    (first | (go_at_call 67; (with_reducible refine (words_Get.calls 20 s i wd n i2 c _ HF.out).mono ?_); rintro e w' ⟨rfl, ⟨nd, rfl⟩⟩))
  go_wp2_with (go_at_call 34; (with_reducible refine (must_bad c HC.out _).mono ?_); rintro e w' ⟨rfl, rfl⟩)
  exact ⟨rfl, rfl, _, rfl⟩
set_option maxHeartbeats 4000000 in
set_option maxRecDepth 100000 in
theorem int_bad1 (s : ByteArray) (i wd i1 c : Int) (g : Nat) (w0 w : World) (hI : IsS73 w0 w g s i) (hB : Below w0.heap.size w0 w) (hc : c ≠ 0) (h1 : words_Get.f 20 s i 1 = some (wd, i1, c)) :
    Calls Tryd.prog 50 #[.pointer (some ⟨g, 0, none⟩)] w fun e w' => e = .panicked [fault c] ∧ KeepBut w w' g none ∧ Below w0.heap.size w0 w' := by
  have HI := Aside0.mk hI
  have HB := Aside0.mk hB
  have HF := Aside0.mk h1
  clear hI hB h1
  have HC := Aside0.mk hc
  clear hc
  have hu := Tryd.underlying51
  go_enter Tryd.func50, Tryd.ntmps50
  go_wp2_with (go_at_call 49; (with_reducible refine (number_bad s i 1 wd i1 c g _ ?b HC.out HF.out).mono ?_); (case b => exact (HI.out.alloc _).1); rintro e w1 ⟨rfl, nd, hw⟩; have HK1 : Aside0 (KeepBut w w1 g none) := ⟨by rw [hw]; exact keep_drewN (keep_alloc (KeepBut.refl w g none) _) nd⟩; have HB1 : Aside0 (Below w0.heap.size w0 w1) := ⟨by rw [hw]; exact pw_below_drewN (below_alloc HB.out _) nd⟩; clear hw)
  exact ⟨rfl, rfl, HK1.out, HB1.out⟩
set_option maxHeartbeats 4000000 in
set_option maxRecDepth 100000 in
theorem int_long (s : ByteArray) (i wd i1 : Int) (g : Nat) (w0 w : World) (hI : IsS73 w0 w g s i) (hB : Below w0.heap.size w0 w) (h1 : pack_reader_number.f 20 s i 1 = some (wd, s, i1)) (h8 : 8 < wd) (h9 : wd < 256) :
    Calls Tryd.prog 50 #[.pointer (some ⟨g, 0, none⟩)] w fun e w' => e = .panicked [fault 4] ∧ KeepBut w w' g none ∧ Below w0.heap.size w0 w' := by
  have HI := Aside0.mk hI
  have HB := Aside0.mk hB
  have HF := Aside0.mk h1
  clear hI hB h1
  have e0 : decide (8 < wd) = true := decide_eq_true h8
  have e1 : 0 ≤ wd := by omega
  have e2 : wd ≤ 9223372036854775807 := by omega
  have e4 : wrap64 wd = wd := by unfold wrap64; omega
  have hu := Tryd.underlying51
  go_enter Tryd.func50, Tryd.ntmps50
  go_wp2_with (first | (go_at_call 49; (with_reducible refine (pack_reader_number.calls 20 g s i 1 wd s i1 w0 _ ?b ?bb HF.out).mono ?_); (case b => exact HI.out.alloc _); (case bb => exact below_alloc HB.out _); rintro e w1 ⟨rfl, hi, hb, hk⟩; have HI1 := Aside0.mk hi; have HB1 := Aside0.mk hb; have HK1 := Aside0.mk ((keep_alloc (KeepBut.refl w g none) _).trans hk (.inl rfl)); clear hi hb hk) | (go_at_call 34; (with_reducible refine (must_bad 4 (by decide) _).mono ?_); rintro e w3 ⟨rfl, rfl⟩))
  exact ⟨rfl, rfl, HK1.out, HB1.out⟩
set_option maxHeartbeats 4000000 in
set_option maxRecDepth 100000 in
theorem int_bad2 (s : ByteArray) (i wd i1 n i2 c : Int) (g : Nat) (w0 w : World) (hI : IsS73 w0 w g s i) (hB : Below w0.heap.size w0 w) (hc : c ≠ 0) (h1 : pack_reader_number.f 20 s i 1 = some (wd, s, i1)) (h8 : 1 ≤ wd) (h9 : wd ≤ 8) (h2 : words_Get.f 20 s i1 wd = some (n, i2, c)) :
    Calls Tryd.prog 50 #[.pointer (some ⟨g, 0, none⟩)] w fun e w' => e = .panicked [fault c] ∧ KeepBut w w' g none ∧ Below w0.heap.size w0 w' := by
  have HI := Aside0.mk hI
  have HB := Aside0.mk hB
  have HF := Aside0.mk h1
  clear hI hB h1
  have HC := Aside0.mk hc
  have HG := Aside0.mk h2
  clear hc h2
  have e0 : decide (8 < wd) = false := decide_eq_false (by omega)
  have e1 : 0 ≤ wd := by omega
  have e2 : wd ≤ 9223372036854775807 := by omega
  have e3 : (wd == 0) = false := beq_eq_false_iff_ne.mpr (by omega)
  have e4 : wrap64 wd = wd := by unfold wrap64; omega
  have hu := Tryd.underlying51
  go_enter Tryd.func50, Tryd.ntmps50
  go_wp2_with (first | (go_at_call 49; (with_reducible refine (pack_reader_number.calls 20 g s i 1 wd s i1 w0 _ ?b ?bb HF.out).mono ?_); (case b => exact HI.out.alloc _); (case bb => exact below_alloc HB.out _); rintro e w1 ⟨rfl, hi, hb, hk⟩; have HI1 := Aside0.mk hi; have HB1 := Aside0.mk hb; have HK1 := Aside0.mk ((keep_alloc (KeepBut.refl w g none) _).trans hk (.inl rfl)); clear hi hb hk) | (go_at_call 49; (with_reducible refine (number_bad s i1 wd n i2 c g _ ?b HC.out HG.out).mono ?_); (case b => exact HI1.out.1); rintro e w2 ⟨rfl, nd, rfl⟩; have HK2 := Aside0.mk (keep_drewN HK1.out nd); have HB2 := Aside0.mk (pw_below_drewN HB1.out nd)))
  exact ⟨rfl, rfl, HK2.out, HB2.out⟩
set_option maxHeartbeats 4000000 in
set_option maxRecDepth 100000 in
theorem int_zero (s : ByteArray) (i wd i1 n i2 : Int) (g : Nat) (w0 w : World) (hI : IsS73 w0 w g s i) (hB : Below w0.heap.size w0 w) (h1 : pack_reader_number.f 20 s i 1 = some (wd, s, i1)) (h8 : 1 ≤ wd) (h9 : wd ≤ 8) (h2 : pack_reader_number.f 20 s i1 wd = some (n, s, i2)) (h3 : n / 2 ^ (8 * (wd - 1)).toNat = 0) :
    Calls Tryd.prog 50 #[.pointer (some ⟨g, 0, none⟩)] w fun e w' => e = .panicked [fault 4] ∧ KeepBut w w' g none ∧ Below w0.heap.size w0 w' := by
  have HI := Aside0.mk hI
  have HB := Aside0.mk hB
  have HF := Aside0.mk h1
  clear hI hB h1
  have HG := Aside0.mk h2
  clear h2
  have e0 : decide (8 < wd) = false := decide_eq_false (by omega)
  have e1 : 0 ≤ wd := by omega
  have e2 : wd ≤ 9223372036854775807 := by omega
  have e3 : (wd == 0) = false := beq_eq_false_iff_ne.mpr (by omega)
  have e4 : wrap64 wd = wd := by unfold wrap64; omega
  have e5 : (n / 2 ^ (8 * (wd - 1)).toNat == 0) = true := beq_iff_eq.mpr h3
  clear h3
  have hu := Tryd.underlying51
  go_enter Tryd.func50, Tryd.ntmps50
  go_wp2_with (first | (go_at_call 49; (with_reducible refine (pack_reader_number.calls 20 g s i 1 wd s i1 w0 _ ?b ?bb HF.out).mono ?_); (case b => exact HI.out.alloc _); (case bb => exact below_alloc HB.out _); rintro e w1 ⟨rfl, hi, hb, hk⟩; have HI1 := Aside0.mk hi; have HB1 := Aside0.mk hb; have HK1 := Aside0.mk ((keep_alloc (KeepBut.refl w g none) _).trans hk (.inl rfl)); clear hi hb hk) | (go_at_call 49; (with_reducible refine (pack_reader_number.calls 20 g s i1 wd n s i2 w0 _ ?b ?bb HG.out).mono ?_); (case b => exact HI1.out); (case bb => exact HB1.out); rintro e w2 ⟨rfl, hi, hb, hk⟩; have HI2 := Aside0.mk hi; have HB2 := Aside0.mk hb; have HK2 := Aside0.mk (HK1.out.trans hk (.inl rfl)); clear hi hb hk) | (go_at_call 34; (with_reducible refine (must_bad 4 (by decide) _).mono ?_); rintro e w3 ⟨rfl, rfl⟩))
  all_goals exact ⟨rfl, rfl, HK2.out, HB2.out⟩
end Go.Proofs.YtpbnfnaebdmagaaDoor.Rd
namespace Go.Proofs.YtpbnfnaebdmagaaDoor.WordsA
set_option linter.unusedVariables false
set_option linter.unusedSimpArgs false
open Go Go.RowKit Go.Proofs.YtpbnfnaebdmagaaDoor.Plain Go.Proofs.YtpbnfnaebdmagaaDoor.PT Go.Proofs.YtpbnfnaebdmagaaDoorW.PrintWords Go.Proofs.YtpbnfnaebdmagaaDoorW.PrintLast Go.Proofs.YtpbnfnaebdmagaaDoorW.PrintMore

theorem shr64 (n : Int) (i : Int) (h1 : i ≤ 64) : shr .u64 n i = n / 2 ^ i.toNat := by
  unfold shr; rw [Nat.min_eq_left (by simp [IntKind.bits]; omega)]
theorem shl64 (n : Int) (i : Int) (h1 : i ≤ 64) : shl .u64 n i = n * 2 ^ i.toNat % 18446744073709551616 := by
  unfold shl; rw [Nat.min_eq_left (by simp [IntKind.bits]; omega), wu64]
theorem shr32 (n : Int) (i : Int) (h1 : i ≤ 32) : shr .u32 n i = n / 2 ^ i.toNat := by
  unfold shr; rw [Nat.min_eq_left (by simp [IntKind.bits]; omega)]
theorem shl32 (n : Int) (i : Int) (h1 : i ≤ 32) : shl .u32 n i = n * 2 ^ i.toNat % 4294967296 := by
  unfold shl; rw [Nat.min_eq_left (by simp [IntKind.bits]; omega), wu32]

/-! #### Put -/
theorem put_loop (d : Nat) : ∀ (k : Nat) (n : Int) (xs : List Int), 0 ≤ n → n < 18446744073709551616 → d ≤ 8 → xs.length + d ≤ 8 → d < k →
    words_Put.l0 k n xs ((d : Int) - 1) = some (strOfNums (xs ++ puts d n)) := by
  induction d with
  | zero =>
    intro k n xs h0 h1 hd hx hk
    obtain ⟨k, rfl⟩ : ∃ m, k = m + 1 := ⟨k - 1, by omega⟩
    simp only [words_Put.l0]; rw [if_neg (by omega)]; simp [puts]
  | succ d ih =>
    intro k n xs h0 h1 hd hx hk
    obtain ⟨k, rfl⟩ : ∃ m, k = m + 1 := ⟨k - 1, by omega⟩
    simp only [words_Put.l0]
    rw [show ((d + 1 : Nat) : Int) - 1 = (d : Int) by omega, if_pos (by omega), w64 (n := 8 * (d : Int)) (by omega) (by omega), if_pos (by omega), if_pos (by omega), shr64 _ _ (by omega), w64 (by omega) (by omega), ih k n _ h0 h1 (by omega) (by simp; omega) (by omega), puts_front, pow8]
    simp
theorem put_some {w n : Int} (k : Nat) (h0 : 0 ≤ n) (h1 : n < 18446744073709551616) (hk : 10 ≤ k) : words_Put.f k w n = some (put w n) := by
  unfold words_Put.f put
  have e : mx 0 (mn w 8) = ((max 0 (min w 8)).toNat : Int) := by unfold mx mn; omega
  rw [e, put_loop _ k n [] h0 h1 (by omega) (by simp; omega) (by omega)]
  simp
theorem rput_loop (d : Nat) : ∀ (k : Nat) (w n : Int) (s : ByteArray) (i : Int), 0 ≤ n → n < 18446744073709551616 → 0 ≤ i → i + s.size ≤ 2 * i → i + d ≤ 8 → (max i (min w 8)) - i = d → d < k →
    precinctref01_Put.l0 k w n s i = some (strOfNums (puts d n) ++ s) := by
  induction d with
  | zero =>
    intro k w n s i h0 h1 hi hs hd hx hk
    obtain ⟨k, rfl⟩ : ∃ m, k = m + 1 := ⟨k - 1, by omega⟩
    simp only [precinctref01_Put.l0]
    have e : strOfNums (puts 0 n) ++ s = s := by simp [puts, strOfNums_nil]
    rw [e]
    by_cases h : i < w
    · rw [if_pos h, if_neg (by omega)]
    · rw [if_neg h]
  | succ d ih =>
    intro k w n s i h0 h1 hi hs hd hx hk
    obtain ⟨k, rfl⟩ : ∃ m, k = m + 1 := ⟨k - 1, by omega⟩
    simp only [precinctref01_Put.l0]
    rw [if_pos (by omega), if_pos (by omega)]
    simp only [Option.bind_some]
    have hz := size_strOfNums [Int.tmod n 256 % 256]
    simp at hz
    rw [if_pos (by omega), Int.tdiv_eq_ediv_of_nonneg h0, Int.tmod_eq_emod_of_nonneg h0, wu64, Int.emod_eq_of_lt (by omega) (by omega), w64 (by omega) (by omega)]
    rw [ih k w (n / 256) _ (i + 1) (by omega) (by omega) (by omega) (by rw [ByteArray.size_append, size_strOfNums]; simp; omega) (by omega) (by omega) (by omega)]
    simp only [puts, strOfNums_append]
    rw [ByteArray.append_assoc]
    simp
theorem rput_some {w n : Int} (k : Nat) (h0 : 0 ≤ n) (h1 : n < 18446744073709551616) (hk : 10 ≤ k) : precinctref01_Put.f k w n = some (put w n) := by
  unfold precinctref01_Put.f put
  rw [rput_loop (max 0 (min w 8)).toNat k w n _ 0 h0 h1 (by omega) (by decide) (by omega) (by omega) (by omega)]
  congr 1
  exact ByteArray.append_empty

/-! #### Get -/
theorem or_join (x y : Int) (h0 : 0 ≤ x) (h1 : x < 72057594037927936) (k0 : 0 ≤ y) (k1 : y ≤ 255) : bits .or .u64 (x * 256) y = x * 256 + y := by
  rw [or_u64 _ _ (by omega) (by omega) k0 (by omega)]
  have e : (x * 256).toNat = 2 ^ 8 * x.toNat := by omega
  rw [e, ← Nat.two_pow_add_eq_or_of_lt (by omega)]; omega
end Go.Proofs.YtpbnfnaebdmagaaDoor.WordsA
namespace Go.Proofs.YtpbnfnaebdmagaaDoor.WordsA
set_option linter.unusedVariables false
set_option linter.unusedSimpArgs false
open Go Go.RowKit Go.Proofs.YtpbnfnaebdmagaaDoor.Plain Go.Proofs.YtpbnfnaebdmagaaDoor.PT Go.Proofs.YtpbnfnaebdmagaaDoorW.PrintWords Go.Proofs.YtpbnfnaebdmagaaDoorW.PrintLast Go.Proofs.YtpbnfnaebdmagaaDoorW.PrintMore
/-- what Text answers -/
def textR (s : ByteArray) : ByteArray × Int := if (s.size : Int) > 65535 then (⟨#[]⟩, 5) else (put 2 s.size ++ s, 0)
/-- what GetText answers -/
def gtextR (s : ByteArray) (a : Int) : ByteArray × Int × Int :=
  if (getR s a 2).2.2 = 0 then (if (s.size : Int) - (getR s a 2).2.1 < (getR s a 2).1 then (⟨#[]⟩, 0, 3)
    else (s.extract (getR s a 2).2.1.toNat ((getR s a 2).2.1 + (getR s a 2).1).toNat, (getR s a 2).2.1 + (getR s a 2).1, 0))
  else (⟨#[]⟩, 0, (getR s a 2).2.2)
theorem text_some {s : ByteArray} (k : Nat) (hs : s.size ≤ 140737488351232 * 4) (hk : 10 ≤ k) : words_Text.f k s = some (textR s) := by
  unfold words_Text.f textR
  by_cases h : (s.size : Int) > 65535
  · rw [if_pos h, if_pos h]
  · rw [if_neg h, if_neg h, wu64, Int.emod_eq_of_lt (by omega) (by omega), put_some k (by omega) (by omega) hk]
    simp only [Option.bind_some]
    rw [if_pos (by rw [size_put]; omega)]
theorem rtext_some {s : ByteArray} (k : Nat) (hs : s.size ≤ 140737488351232 * 4) (hk : 10 ≤ k) : precinctref01_Text.f k s = some (textR s) := by
  unfold precinctref01_Text.f textR
  by_cases h : (s.size : Int) > 65535
  · rw [if_pos h, if_pos h]
  · rw [if_neg h, if_neg h, wu64, Int.emod_eq_of_lt (by omega) (by omega), rput_some k (by omega) (by omega) hk]
    simp only [Option.bind_some]
    rw [if_pos (by rw [size_put]; omega)]
theorem getR2 (s : ByteArray) (a : Int) : (getR s a 2).2.2 = 0 → 0 ≤ a ∧ a + 2 ≤ s.size ∧ getR s a 2 = (gets s a 2, a + 2, 0) ∧ 0 ≤ gets s a 2 ∧ gets s a 2 < 65536 := by
  unfold getR
  by_cases h : (2 : Int) < 1 ∨ (2 : Int) > 8 ∨ a < 0 ∨ a > s.size
  · rw [if_pos h]; intro h; simp at h
  · rw [if_neg h]
    by_cases g : (s.size : Int) - a < 2
    · rw [if_pos g]; intro h; simp at h
    · rw [if_neg g]; intro _
      have := gets_lt s a 2
      exact ⟨by omega, by omega, rfl, this.1, by have := this.2; simpa using this⟩
end Go.Proofs.YtpbnfnaebdmagaaDoor.WordsA
namespace Go.Proofs.YtpbnfnaebdmagaaDoor.Pk
set_option linter.unusedVariables false
set_option linter.unusedSimpArgs false
open Go Go.RowKit Go.Proofs.YtpbnfnaebdmagaaDoor.Plain Go.Proofs.YtpbnfnaebdmagaaDoor.WordsA Go.Proofs.YtpbnfnaebdmagaaDoor.Bld Go.Proofs.YtpbnfnaebdmagaaDoor.PT Go.Proofs.YtpbnfnaebdmagaaDoorW.PrintWords Go.Proofs.YtpbnfnaebdmagaaDoorW.PrintLast Go.Proofs.YtpbnfnaebdmagaaDoorW.PrintMore
/-- how many bytes a number has -/
def wdl : Nat → Int → Nat
  | 0, _ => 0
  | k + 1, n => if n > 0 then wdl k (n / 256) + 1 else 0
def foldR (n : Int) : Int := if 0 ≤ n then 2 * n else -2 * n - 1
def intB (n : Int) : ByteArray := ((⟨#[1]⟩ : ByteArray) ++ put 1 (wdl 9 (foldR n))) ++ put (wdl 9 (foldR n)) (foldR n)
def putL (f : S51 → Int → Option (ByteArray × Int)) : List S51 → Int → Option (ByteArray × Int)
  | [], _ => some (⟨#[]⟩, 0)
  | x :: r, d => (f x d).bind fun t => if t.2 = 0 then ((putL f r d).bind fun u => some (t.1 ++ u.1, u.2)) else some (t.1, t.2)
def headB (n : Nat) (u : ByteArray) : ByteArray := ((⟨#[3]⟩ : ByteArray) ++ put 2 n) ++ u
def pack_put.f : Nat → Int → Int → ByteArray → List S51 → Int → Option (ByteArray × Int)
  | 0, _, _, _, _, _ => none
  | k + 1, a0, a1, a2, l3, d =>
    if a0 = 0 then (if -9223372036854775808 ≤ a1 ∧ a1 ≤ 9223372036854775807 then some (intB a1, 0) else none)
    else if a0 = 1 then (if (a2.size : Int) > 4096 then some (⟨#[]⟩, 5) else some ((⟨#[2]⟩ : ByteArray) ++ (textR a2).1, 0))
    else if a0 = 2 then (if (l3.length : Int) > 256 then some (⟨#[]⟩, 5) else if d ≥ 8 then some (⟨#[]⟩, 5)
      else (putL (fun x e => pack_put.f k x.f0 x.f1 x.f2 x.f3 e) l3 (wrap64 (d + 1))).bind fun u => some (headB l3.length u.1, u.2))
    else some (⟨#[]⟩, 2)
theorem wdl_step (k : Nat) (n : Int) (h : n > 0) : wdl (k + 1) n = wdl k (n / 256) + 1 := by simp [wdl, h]
theorem wdl_more (k : Nat) : ∀ n : Int, n < 256 ^ k → wdl (k + 1) n = wdl k n := by
  induction k with
  | zero => intro n h; simp at h; simp [wdl]; omega
  | succ k ih =>
    intro n h
    by_cases c : n > 0
    · rw [wdl_step _ _ c, wdl_step _ _ c, ih]
      rw [Int.pow_succ] at h
      omega
    · simp [wdl, c]
theorem byteCells_strCells (s : ByteArray) : Lib.strCells s = Lib.byteCells s.data.toList := by
  simp [Lib.strCells, Lib.byteCells]
theorem bld_below {T e : TypeId} {B b : Nat} {bs : List Value} {w w1 : World} (h : Lib.IsBuilder T e B b bs w) (hb : Below w.heap.size w w1) : Lib.IsBuilder T e B b bs w1 := by
  have key : ∀ {p : Value}, Lib.BuilderAt T e B b p bs w → Lib.BuilderAt T e B b p bs w1 := by
    rintro p ⟨hB, v, hbk, hown, hne⟩
    exact ⟨hB, v, (hb.block b (blk_lt hbk)).trans hbk, pw_own_below hown hb, hne⟩
  rcases h with h | h
  · exact .inl (key h)
  · exact .inr (key h)
theorem bld_alloc {T e : TypeId} {B b : Nat} {bs : List Value} {w : World} (h : Lib.IsBuilder T e B b bs w) (o : Obj) : Lib.IsBuilder T e B b bs (w.alloc o) := bld_below h (below_alloc (Below.refl _ _) o)
theorem bld_drewN {T e : TypeId} {B b : Nat} {bs : List Value} {w : World} (h : Lib.IsBuilder T e B b bs w) (n : Nat) : Lib.IsBuilder T e B b bs (w.drewN n) := bld_below h (pw_below_drewN (Below.refl _ _) n)
theorem bld_lt {T e : TypeId} {B b : Nat} {bs : List Value} {w : World} (h : Lib.IsBuilder T e B b bs w) : b < w.heap.size := by
  rcases h with h | h <;> exact h.lt
theorem alloc_new (w : World) (o : Obj) : (w.alloc o).heap[w.heap.size]? = some o := by
  show (w.heap.push o)[w.heap.size]? = _
  simp
theorem below_step' {w0 w w1 : World} (h : Below w0.heap.size w0 w) (hb : Below w.heap.size w w1) : Below w0.heap.size w0 w1 := below_then h h.size hb
set_option maxHeartbeats 4000000 in
set_option maxRecDepth 100000 in
theorem put_int (a1 : Int) (a2 : ByteArray) (A3 : Option Addr) (n3 c3 : Nat) (d : Int) (bs : List UInt8) (b : Nat) (w0 w : World) (hn : -9223372036854775808 ≤ a1 ∧ a1 ≤ 9223372036854775807)
    (HB : Below w0.heap.size w0 w) (hI : Lib.IsBuilder 81 5 w0.heap.size b (Lib.byteCells bs) w) (hlen : bs.length + (intB a1).size ≤ 140737488355328) :
    Calls Tryd.prog 37 #[.pointer (some ⟨b, 0, none⟩), .agg #[.int .i64 0, .int .i64 a1, .string a2, .slice A3 n3 c3], .int .i64 d] w fun e w' =>
      e = .returned (.int .i64 0) ∧ Lib.IsBuilder 81 5 w0.heap.size b (Lib.byteCells (bs ++ (intB a1).data.toList)) w' ∧ Below w0.heap.size w0 w' ∧ KeepT b w w' := by
  have hF : Hid (words_Fold.f a1 = some (foldR a1)) := Lib.hid (fold_some hn.1 hn.2)
  have hF0 : 0 ≤ foldR a1 := by unfold foldR; split <;> omega
  have hF1 : foldR a1 < 18446744073709551616 := by unfold foldR; split <;> omega
  have hL : Hid (bs.length + (intB a1).size ≤ 140737488355328) := Lib.hid hlen
  have hI' : Hid (Lib.IsBuilder 81 5 w0.heap.size b (Lib.byteCells bs) w) := Lib.hid hI
  have HB' : Hid (Below w0.heap.size w0 w) := Lib.hid HB
  have hO : Hid (intB a1 = ((⟨#[1]⟩ : ByteArray) ++ put 1 (wdl 9 (foldR a1))) ++ put (wdl 9 (foldR a1)) (foldR a1)) := Lib.hid rfl
  clear hlen hI HB
  generalize foldR a1 = F at *
  have hu := Tryd.underlying51
  go_enter Tryd.func37, Tryd.ntmps37
  go_wp2_with (go_at_call 55; (with_reducible refine (words_Fold.calls a1 F _ hF.out).mono ?_); rintro e w' ⟨rfl, ⟨nd, rfl⟩⟩)
  go_loop [8, 9] (fun c m => ∃ (i : Nat) (x : Int), c = .int .i64 i ∧ m = .int .u64 x ∧ 0 ≤ x ∧ x < 256 ^ (8 - i) ∧ i ≤ 8 ∧ i + wdl (9 - i) x = wdl 9 F) (fun _ m => (intOf m).toNat)
  case atStart => exact ⟨0, F, rfl, rfl, hF0, hF1, by omega, by simp⟩
  case round =>
    obtain ⟨i, x, rfl, rfl, hx0, hx1, hi, hw⟩ := hrel
    by_cases hx : 0 < x
    · have hi8 : i < 8 := by
        rcases Nat.lt_or_ge i 8 with h | h
        · exact h
        · rw [show 8 - i = 0 by omega] at hx1; simp at hx1; omega
      have hw' : Hid (i + 1 + wdl (9 - (i + 1)) (x / 256) = wdl 9 F) := by
        refine Lib.hid ?_
        rw [show 9 - i = (9 - (i + 1)) + 1 by omega, wdl_step _ _ hx] at hw; omega
      have hx1' : Hid (x / 256 < 256 ^ (8 - (i + 1))) := by
        refine Lib.hid ?_
        rw [show 8 - i = (8 - (i + 1)) + 1 by omega, Int.pow_succ] at hx1; omega
      clear hw hx1
      go_wp2
      go_round
      case rel => exact ⟨i + 1, x / 256, by go_num, rfl, by omega, hx1'.out, by omega, hw'.out⟩
      case measure => simp [intOf]; omega
    · obtain rfl : x = 0 := by omega
      have hw' : i = wdl 9 F := by
        rw [← hw]
        cases h9 : 9 - i <;> simp [wdl]
      clear hw hx hx1
      subst hw'
      have hw8 : wdl 9 F ≤ 8 := hi
      have hP1 : Hid (words_Put.f 20 1 (wdl 9 F : Nat) = some (put 1 (wdl 9 F : Nat))) := Lib.hid (put_some 20 (by omega) (by omega) (by omega))
      have hP2 : Hid (words_Put.f 20 (wdl 9 F : Nat) F = some (put (wdl 9 F : Nat) F)) := Lib.hid (put_some 20 hF0 hF1 (by omega))
      have z1 : (put 1 (wdl 9 F : Nat)).size = 1 := by rw [size_put]; rfl
      have z2 : (put (wdl 9 F : Nat) F).size = wdl 9 F := by rw [size_put]; omega
      have t1 : 1 + (put 1 (wdl 9 F : Nat)).size ≤ 9223372036854775807 := by omega
      have t2 : 1 + (put 1 (wdl 9 F : Nat)).size + (put (wdl 9 F : Nat) F).size ≤ 9223372036854775807 := by omega
      clear z1 z2
      have t1b := eq_true t1
      have t1c : (9223372036854775807 < 1 + (put 1 (wdl 9 F : Nat)).size) = False := eq_false (Nat.not_lt.2 t1)
      have t2b := eq_true t2
      have t2c : (9223372036854775807 < 1 + (put 1 (wdl 9 F : Nat)).size + (put (wdl 9 F : Nat) F).size) = False := eq_false (Nat.not_lt.2 t2)
      clear t1 t2
      go_wp2_with (first
        | (go_at_call 57; (with_reducible refine (words_Put.calls 20 1 (wdl 9 F : Nat) _ _ hP1.out).mono ?_); rintro e w1 ⟨rfl, hb1⟩; have HB1 := Aside0.mk (below_step' (pw_below_drewN (below_alloc HB'.out _) nd) hb1); have HI1 := Aside0.mk (bld_below (bld_drewN (bld_alloc hI'.out _) nd) hb1); have HX1 := Aside0.mk (below_step' (pw_below_drewN (below_alloc (Below.refl w.heap.size w) _) nd) hb1); clear hb1)
        | (go_at_call 57; (with_reducible refine (words_Put.calls 20 (wdl 9 F : Nat) F _ _ hP2.out).mono ?_); rintro e w2 ⟨rfl, hb2⟩; have HB2 := Aside0.mk (below_step' HB1.out hb2); have HI2 := Aside0.mk (bld_below HI1.out hb2); have HX2 := Aside0.mk (below_step' HX1.out hb2); clear hb2)
        | (go_at_call 56; (with_reducible refine (writeString _ b _ (((⟨#[1]⟩ : ByteArray) ++ put 1 (wdl 9 F : Nat)) ++ put (wdl 9 F : Nat) F) _ HI2.out ?c1 HB2.out.size).mono ?_); (case c1 => rw [← hO.out, Lib.byteCells_length]; exact hL.out); rintro e w3 ⟨rfl, hI3, hb3, hk3⟩; have HI3 := Aside0.mk hI3; have HB3 := Aside0.mk hb3; have HK3 := Aside0.mk hk3; clear hI3 hb3 hk3))
      go_ret
      have e := HI3.out
      rw [← hO.out, byteCells_strCells] at e
      have e2 : Lib.byteCells (bs ++ (intB a1).data.toList) = Lib.byteCells bs ++ Lib.byteCells (intB a1).data.toList := by simp [Lib.byteCells]
      exact ⟨rfl, Or.inr (by rw [e2]; exact e), HB2.out.trans HB3.out, (KeepT.below HX2.out).trans HK3.out⟩
set_option maxHeartbeats 4000000 in
set_option maxRecDepth 100000 in
theorem put_text_long (a1 : Int) (a2 : ByteArray) (A3 : Option Addr) (n3 c3 : Nat) (d : Int) (bs : List UInt8) (b : Nat) (w0 w : World) (h : 4096 < a2.size)
    (HB : Below w0.heap.size w0 w) (hI : Lib.IsBuilder 81 5 w0.heap.size b (Lib.byteCells bs) w) :
    Calls Tryd.prog 37 #[.pointer (some ⟨b, 0, none⟩), .agg #[.int .i64 1, .int .i64 a1, .string a2, .slice A3 n3 c3], .int .i64 d] w fun e w' =>
      e = .returned (.int .i64 5) ∧ Lib.IsBuilder 81 5 w0.heap.size b (Lib.byteCells (bs ++ [])) w' ∧ Below w0.heap.size w0 w' ∧ KeepT b w w' := by
  have h1 : decide (4096 < a2.size) = true := decide_eq_true h
  have h2 : decide ((4096 : Int) < (a2.size : Int)) = true := decide_eq_true (by omega)
  clear h
  have hI' : Hid (Lib.IsBuilder 81 5 w0.heap.size b (Lib.byteCells bs) w) := Lib.hid hI
  have HB' : Hid (Below w0.heap.size w0 w) := Lib.hid HB
  clear hI HB
  have hu := Tryd.underlying51
  go_enter Tryd.func37, Tryd.ntmps37
  go_wp2
  go_ret
  refine ⟨rfl, by rw [List.append_nil]; exact bld_alloc hI'.out _, below_alloc HB'.out _, KeepT.below (below_alloc (Below.refl w.heap.size w) _)⟩
set_option maxHeartbeats 4000000 in
set_option maxRecDepth 100000 in
theorem put_text (a1 : Int) (a2 : ByteArray) (A3 : Option Addr) (n3 c3 : Nat) (d : Int) (bs : List UInt8) (b : Nat) (w0 w : World) (h : a2.size ≤ 4096)
    (HB : Below w0.heap.size w0 w) (hI : Lib.IsBuilder 81 5 w0.heap.size b (Lib.byteCells bs) w) (hlen : bs.length + ((⟨#[2]⟩ : ByteArray) ++ (textR a2).1).size ≤ 140737488355328) :
    Calls Tryd.prog 37 #[.pointer (some ⟨b, 0, none⟩), .agg #[.int .i64 1, .int .i64 a1, .string a2, .slice A3 n3 c3], .int .i64 d] w fun e w' =>
      e = .returned (.int .i64 0) ∧ Lib.IsBuilder 81 5 w0.heap.size b (Lib.byteCells (bs ++ ((⟨#[2]⟩ : ByteArray) ++ (textR a2).1).data.toList)) w' ∧ Below w0.heap.size w0 w' ∧ KeepT b w w' := by
  have h1 : decide (4096 < a2.size) = false := decide_eq_false (by omega)
  have h2 : decide ((4096 : Int) < (a2.size : Int)) = false := decide_eq_false (by omega)
  have hT : Hid (words_Text.f 20 a2 = some ((textR a2).1, (textR a2).2)) := Lib.hid (text_some 20 (by omega) (by omega))
  have hS : (textR a2).1.size = 2 + a2.size := by
    unfold textR; rw [if_neg (by omega)]; show (put 2 a2.size ++ a2).size = _; rw [ByteArray.size_append, size_put]; rfl
  have hL : Hid (bs.length + ((⟨#[2]⟩ : ByteArray) ++ (textR a2).1).size ≤ 140737488355328) := Lib.hid hlen
  clear hlen
  generalize (textR a2).1 = S at *
  generalize (textR a2).2 = E at *
  have t1 : 1 + S.size ≤ 9223372036854775807 := by omega
  clear h hS
  have t1b := eq_true t1
  have t1c : (9223372036854775807 < 1 + S.size) = False := eq_false (Nat.not_lt.2 t1)
  clear t1
  have hI' : Hid (Lib.IsBuilder 81 5 w0.heap.size b (Lib.byteCells bs) w) := Lib.hid hI
  have HB' : Hid (Below w0.heap.size w0 w) := Lib.hid HB
  clear hI HB
  have hu := Tryd.underlying51
  go_enter Tryd.func37, Tryd.ntmps37
  go_wp2_with (first
    | (go_at_call 58; (with_reducible refine (words_Text.calls 20 a2 S E _ hT.out).mono ?_); rintro e w1 ⟨rfl, hb1⟩; have HB1 := Aside0.mk (below_step' (below_alloc HB'.out _) hb1); have HI1 := Aside0.mk (bld_below (bld_alloc hI'.out _) hb1); have HX1 := Aside0.mk (below_step' (below_alloc (Below.refl w.heap.size w) _) hb1); clear hb1)
    | (go_at_call 56; (with_reducible refine (writeString _ b _ ((⟨#[2]⟩ : ByteArray) ++ S) _ HI1.out ?c1 HB1.out.size).mono ?_); (case c1 => rw [Lib.byteCells_length]; exact hL.out); rintro e w3 ⟨rfl, hI3, hb3, hk3⟩; have HI3 := Aside0.mk hI3; have HB3 := Aside0.mk hb3; have HK3 := Aside0.mk hk3; clear hI3 hb3 hk3))
  go_ret
  have e := HI3.out
  rw [byteCells_strCells] at e
  have e2 : Lib.byteCells (bs ++ ((⟨#[2]⟩ : ByteArray) ++ S).data.toList) = Lib.byteCells bs ++ Lib.byteCells ((⟨#[2]⟩ : ByteArray) ++ S).data.toList := by simp [Lib.byteCells]
  exact ⟨rfl, Or.inr (by rw [e2]; exact e), HB1.out.trans HB3.out, (KeepT.below HX1.out).trans HK3.out⟩
set_option maxHeartbeats 4000000 in
set_option maxRecDepth 100000 in
theorem put_list_long (a1 : Int) (a2 : ByteArray) (A3 : Option Addr) (n3 c3 : Nat) (d : Int) (bs : List UInt8) (b : Nat) (w0 w : World) (h : 256 < n3)
    (HB : Below w0.heap.size w0 w) (hI : Lib.IsBuilder 81 5 w0.heap.size b (Lib.byteCells bs) w) :
    Calls Tryd.prog 37 #[.pointer (some ⟨b, 0, none⟩), .agg #[.int .i64 2, .int .i64 a1, .string a2, .slice A3 n3 c3], .int .i64 d] w fun e w' =>
      e = .returned (.int .i64 5) ∧ Lib.IsBuilder 81 5 w0.heap.size b (Lib.byteCells (bs ++ [])) w' ∧ Below w0.heap.size w0 w' ∧ KeepT b w w' := by
  have h1 : decide (256 < n3) = true := decide_eq_true h
  have h2 : decide ((256 : Int) < (n3 : Int)) = true := decide_eq_true (by omega)
  clear h
  have hI' : Hid (Lib.IsBuilder 81 5 w0.heap.size b (Lib.byteCells bs) w) := Lib.hid hI
  have HB' : Hid (Below w0.heap.size w0 w) := Lib.hid HB
  clear hI HB
  have hu := Tryd.underlying51
  go_enter Tryd.func37, Tryd.ntmps37
  go_wp2
  go_ret
  refine ⟨rfl, by rw [List.append_nil]; exact bld_alloc hI'.out _, below_alloc HB'.out _, KeepT.below (below_alloc (Below.refl w.heap.size w) _)⟩
set_option maxHeartbeats 4000000 in
set_option maxRecDepth 100000 in
theorem put_list_deep (a1 : Int) (a2 : ByteArray) (A3 : Option Addr) (n3 c3 : Nat) (d : Int) (bs : List UInt8) (b : Nat) (w0 w : World) (h : n3 ≤ 256) (hd : 8 ≤ d)
    (HB : Below w0.heap.size w0 w) (hI : Lib.IsBuilder 81 5 w0.heap.size b (Lib.byteCells bs) w) :
    Calls Tryd.prog 37 #[.pointer (some ⟨b, 0, none⟩), .agg #[.int .i64 2, .int .i64 a1, .string a2, .slice A3 n3 c3], .int .i64 d] w fun e w' =>
      e = .returned (.int .i64 5) ∧ Lib.IsBuilder 81 5 w0.heap.size b (Lib.byteCells (bs ++ [])) w' ∧ Below w0.heap.size w0 w' ∧ KeepT b w w' := by
  have h1 : decide (256 < n3) = false := decide_eq_false (by omega)
  have h2 : decide ((256 : Int) < (n3 : Int)) = false := decide_eq_false (by omega)
  have h3 : decide (8 ≤ d) = true := decide_eq_true hd
  clear h hd
  have hI' : Hid (Lib.IsBuilder 81 5 w0.heap.size b (Lib.byteCells bs) w) := Lib.hid hI
  have HB' : Hid (Below w0.heap.size w0 w) := Lib.hid HB
  clear hI HB
  have hu := Tryd.underlying51
  go_enter Tryd.func37, Tryd.ntmps37
  go_wp2
  go_ret
  refine ⟨rfl, by rw [List.append_nil]; exact bld_alloc hI'.out _, below_alloc HB'.out _, KeepT.below (below_alloc (Below.refl w.heap.size w) _)⟩
set_option maxHeartbeats 4000000 in
set_option maxRecDepth 100000 in
theorem put_other (a1 : Int) (a2 : ByteArray) (A3 : Option Addr) (n3 c3 : Nat) (d : Int) (bs : List UInt8) (b : Nat) (w0 w : World) (k0 : Int) (h0 : k0 ≠ 0) (h1 : k0 ≠ 1) (h2 : k0 ≠ 2)
    (HB : Below w0.heap.size w0 w) (hI : Lib.IsBuilder 81 5 w0.heap.size b (Lib.byteCells bs) w) :
    Calls Tryd.prog 37 #[.pointer (some ⟨b, 0, none⟩), .agg #[.int .i64 k0, .int .i64 a1, .string a2, .slice A3 n3 c3], .int .i64 d] w fun e w' =>
      e = .returned (.int .i64 2) ∧ Lib.IsBuilder 81 5 w0.heap.size b (Lib.byteCells (bs ++ [])) w' ∧ Below w0.heap.size w0 w' ∧ KeepT b w w' := by
  have c0 : (k0 == 0) = false := beq_eq_false_iff_ne.mpr h0
  have c1 : (k0 == 1) = false := beq_eq_false_iff_ne.mpr h1
  have c2 : (k0 == 2) = false := beq_eq_false_iff_ne.mpr h2
  clear h0 h1 h2
  have hI' : Hid (Lib.IsBuilder 81 5 w0.heap.size b (Lib.byteCells bs) w) := Lib.hid hI
  have HB' : Hid (Below w0.heap.size w0 w) := Lib.hid HB
  clear hI HB
  have hu := Tryd.underlying51
  go_enter Tryd.func37, Tryd.ntmps37
  go_wp2
  go_ret
  refine ⟨rfl, by rw [List.append_nil]; exact bld_alloc hI'.out _, below_alloc HB'.out _, KeepT.below (below_alloc (Below.refl w.heap.size w) _)⟩
theorem byteCells_append (x y : List UInt8) : Lib.byteCells (x ++ y) = Lib.byteCells x ++ Lib.byteCells y := by simp [Lib.byteCells]
theorem putL_cons {f : S51 → Int → Option (ByteArray × Int)} {l : List S51} {j : Nat} {d : Int} {t : ByteArray} {e : Int} (hj : j < l.length) (h : putL f (l.drop j) d = some (t, e)) :
    ∃ t1 e1, f (rd_T51 l j) d = some (t1, e1) ∧ ((e1 = 0 ∧ ∃ t2, putL f (l.drop (j + 1)) d = some (t2, e) ∧ t = t1 ++ t2) ∨ (e1 ≠ 0 ∧ t = t1 ∧ e = e1)) := by
  have er : rd_T51 l (j : Int) = l[j] := by unfold rd_T51; rw [show ((j : Int)).toNat = j by omega, List.getD_eq_getElem?_getD, List.getElem?_eq_getElem hj]; rfl
  rw [List.drop_eq_getElem_cons hj] at h
  simp only [putL] at h
  obtain ⟨⟨t1, e1⟩, h1, h2⟩ := Option.bind_eq_some_iff.mp h
  refine ⟨t1, e1, by rw [er]; exact h1, ?_⟩
  by_cases c : e1 = 0
  · simp only [c, if_true] at h2
    obtain ⟨⟨t2, e2⟩, h3, h4⟩ := Option.bind_eq_some_iff.mp h2
    simp only [Option.some.injEq, Prod.mk.injEq] at h4
    obtain ⟨rfl, rfl⟩ := h4
    exact .inl ⟨c, t2, h3, rfl⟩
  · simp only [c, if_false, Option.some.injEq, Prod.mk.injEq] at h2
    exact .inr ⟨c, h2.1.symm, h2.2.symm⟩
set_option maxHeartbeats 8000000 in
set_option maxRecDepth 100000 in
theorem put_list (f : S51 → Int → Option (ByteArray × Int))
    (ih : ∀ (x : S51) (A : Option Addr) (c : Nat) (e : Int) (bs : List UInt8) (b : Nat) (r1 : ByteArray) (r2 : Int) (w0 w : World), Kd.C k51 w0 A x.f3.length x.f3 → x.f3.length ≤ c → Below w0.heap.size w0 w → Lib.IsBuilder 81 5 w0.heap.size b (Lib.byteCells bs) w → bs.length + r1.size ≤ 140737488355328 → f x e = some (r1, r2) →
      Calls Tryd.prog 37 #[.pointer (some ⟨b, 0, none⟩), .agg #[.int .i64 x.f0, .int .i64 x.f1, .string x.f2, .slice A x.f3.length c], .int .i64 e] w fun e w' =>
        e = .returned (.int .i64 r2) ∧ Lib.IsBuilder 81 5 w0.heap.size b (Lib.byteCells (bs ++ r1.data.toList)) w' ∧ Below w0.heap.size w0 w' ∧ KeepT b w w')
    (a1 : Int) (a2 : ByteArray) (A3 : Option Addr) (c3 : Nat) (l3 : List S51) (d : Int) (bs : List UInt8) (b : Nat) (u : ByteArray) (r2 : Int) (w0 w : World) (hr : Kd.C k51 w0 A3 l3.length l3) (hc : l3.length ≤ c3) (h : l3.length ≤ 256) (hd : d < 8)
    (HB : Below w0.heap.size w0 w) (hI : Lib.IsBuilder 81 5 w0.heap.size b (Lib.byteCells bs) w) (hlen : bs.length + (headB l3.length u).size ≤ 140737488355328) (hf : putL f l3 (wrap64 (d + 1)) = some (u, r2)) :
    Calls Tryd.prog 37 #[.pointer (some ⟨b, 0, none⟩), .agg #[.int .i64 2, .int .i64 a1, .string a2, .slice A3 l3.length c3], .int .i64 d] w fun e w' =>
      e = .returned (.int .i64 r2) ∧ Lib.IsBuilder 81 5 w0.heap.size b (Lib.byteCells (bs ++ (headB l3.length u).data.toList)) w' ∧ Below w0.heap.size w0 w' ∧ KeepT b w w' := by
  have h1 : decide (256 < l3.length) = false := decide_eq_false (by omega)
  have h2 : decide ((256 : Int) < (l3.length : Int)) = false := decide_eq_false (by omega)
  have h3 : decide (8 ≤ d) = false := decide_eq_false (by omega)
  have hP : Hid (words_Put.f 20 2 (l3.length : Nat) = some (put 2 (l3.length : Nat))) := Lib.hid (put_some 20 (by omega) (by omega) (by omega))
  have zp : (put 2 (l3.length : Nat)).size = 2 := by rw [size_put]; rfl
  have t1 : 1 + (put 2 (l3.length : Nat)).size ≤ 9223372036854775807 := by omega
  have hz3 : (headB l3.length u).size = 3 + u.size := by unfold headB; rw [ByteArray.size_append, ByteArray.size_append, zp]; rfl
  have hL : Hid (bs.length + 3 + u.size ≤ 140737488355328) := Lib.hid (by rw [hz3] at hlen; omega)
  have hz2 : Hid (((⟨#[3]⟩ : ByteArray) ++ put 2 l3.length).size = 3) := Lib.hid (by rw [ByteArray.size_append, zp]; rfl)
  clear hlen hz3 zp hd
  have t1b := eq_true t1
  have t1c : (9223372036854775807 < 1 + (put 2 (l3.length : Nat)).size) = False := eq_false (Nat.not_lt.2 t1)
  clear t1
  have HR := Aside0.mk hr
  have HC := Aside0.mk hc
  have HF := Aside0.mk hf
  have IH := Aside0.mk ih
  clear hr hc hf ih
  have hI' : Hid (Lib.IsBuilder 81 5 w0.heap.size b (Lib.byteCells bs) w) := Lib.hid hI
  have HB' : Hid (Below w0.heap.size w0 w) := Lib.hid HB
  clear hI HB
  have hu := Tryd.underlying51
  have hl9 : l3.length ≤ 9223372036854775807 := by omega
  go_enter Tryd.func37, Tryd.ntmps37
  go_wp2_with (first
    | (go_at_call 57; (with_reducible refine (words_Put.calls 20 2 (l3.length : Nat) _ _ hP.out).mono ?_); rintro e w1 ⟨rfl, hb1⟩; have HB1 := Aside0.mk (below_step' (below_alloc HB'.out _) hb1); have HI1 := Aside0.mk (bld_below (bld_alloc hI'.out _) hb1); have HX1 := Aside0.mk (below_step' (below_alloc (Below.refl w.heap.size w) _) hb1); have BK1 := Aside0.mk (blk_below (g := w.heap.size) (o := .cells #[.int .i64 2, .int .i64 a1, .string a2, .slice A3 l3.length c3] 51 (0, 0)) (alloc_new w _) hb1); clear hb1)
    | (go_at_call 56; (with_reducible refine (writeString _ b _ ((⟨#[3]⟩ : ByteArray) ++ put 2 (l3.length : Nat)) _ HI1.out ?c1 HB1.out.size).mono ?_); (case c1 => rw [Lib.byteCells_length, hz2.out]; have := hL.out; omega); rintro e w3 ⟨rfl, hI3, hb3, hk3⟩; have HI3 := Aside0.mk hI3; have HB3 := Aside0.mk (HB1.out.trans hb3); have HK3 := Aside0.mk ((KeepT.below HX1.out).trans hk3); have BK3 := Aside0.mk (hk3 w.heap.size _ _ _ (by decide) (Nat.ne_of_gt (bld_lt hI'.out)) BK1.out); clear hI3 hb3 hk3; have hcz0 : w3.cell? ⟨w.heap.size, 0, none⟩ = some (.int .i64 2) := (blk_cell BK3.out 0).trans rfl; have hcz3 : w3.cell? ⟨w.heap.size, 3, none⟩ = some (.slice A3 l3.length c3) := (blk_cell BK3.out 3).trans rfl))
  have hH : Hid (Lib.IsBuilder 81 5 w0.heap.size b (Lib.byteCells (bs ++ ((⟨#[3]⟩ : ByteArray) ++ put 2 l3.length).data.toList)) w3) := by
    refine Lib.hid ?_
    have e := HI3.out
    rw [byteCells_strCells] at e
    rw [byteCells_append]
    exact Or.inr e
  clear HI3 hI' HI1 BK1 BK3 hcz0 hcz3 HB1 HX1 hP t1b t1c h1 h2 h3
  go_loopw [76] (fun i wr => ∃ (j : Nat) (acc : List UInt8) (t : ByteArray), i = .int .i64 j ∧ j ≤ l3.length ∧ Aside0 (putL f (l3.drop j) (wrap64 (d + 1)) = some (t, r2)) ∧ Aside0 (acc ++ t.data.toList = bs ++ (headB l3.length u).data.toList) ∧ Aside0 (Lib.IsBuilder 81 5 w0.heap.size b (Lib.byteCells acc) wr) ∧ Aside0 (Below w0.heap.size w0 wr) ∧ Aside0 (KeepT b w wr)) (fun i _ => l3.length - (intOf i).toNat)
  case atStart => exact ⟨0, bs ++ ((⟨#[3]⟩ : ByteArray) ++ put 2 l3.length).data.toList, u, rfl, Nat.zero_le _, HF, ⟨by rw [show headB l3.length u = ((⟨#[3]⟩ : ByteArray) ++ put 2 l3.length) ++ u from rfl, data_append ((⟨#[3]⟩ : ByteArray) ++ put 2 l3.length) u, List.append_assoc]⟩, ⟨hH.out⟩, HB3, HK3⟩
  case round =>
    obtain ⟨j, acc, t, rfl, hj, HT, HE, HIr, HBr, HKr⟩ := hrel
    clear HB3 HK3 hH HF
    by_cases hlt : j < l3.length
    · obtain ⟨t1, e1, hf1, hcase⟩ := putL_cons hlt HT.out
      obtain ⟨ad, A', c', e', hx0, hx1, hx2, hx3, hl', hi'⟩ := at_T51 HR.out (j : Int) (by omega) (by omega)
      cases e'
      rw [show ((j : Int)).toNat = j by omega] at hx0 hx1 hx2 hx3
      replace hx0 := (HBr.out.cell (World.block_lt_of_cell? w0 _ hx0)).trans hx0
      replace hx1 := (HBr.out.cell (World.block_lt_of_cell? w0 _ hx1)).trans hx1
      replace hx2 := (HBr.out.cell (World.block_lt_of_cell? w0 _ hx2)).trans hx2
      replace hx3 := (HBr.out.cell (World.block_lt_of_cell? w0 _ hx3)).trans hx3
      have HF1 := Aside0.mk hf1
      have HI' := Aside0.mk hi'
      have HL' := Aside0.mk hl'
      have hsz : Hid (t1.size ≤ t.size) := by
        refine Lib.hid ?_
        rcases hcase with ⟨_, t2, _, rfl⟩ | ⟨_, rfl, _⟩
        · rw [ByteArray.size_append]; omega
        · exact Nat.le_refl _
      have hlen : Hid (acc.length + t1.size ≤ 140737488355328) := by
        refine Lib.hid ?_
        have e := congrArg List.length HE.out
        have a1 : t.data.toList.length = t.size := Array.length_toList
        have a2 : (headB l3.length u).data.toList.length = (headB l3.length u).size := Array.length_toList
        have a3 : (headB l3.length u).size = 3 + u.size := by unfold headB; rw [ByteArray.size_append, hz2.out]
        rw [List.length_append, List.length_append, a1, a2, a3] at e
        have := hL.out
        have := hsz.out
        omega
      clear hf1 hi' hl'
      generalize rd_T51 l3 (j : Int) = X at *
      by_cases he : e1 = 0
      · subst he
        obtain ⟨t2, HT2, rfl⟩ : ∃ t2, Aside0 (putL f (l3.drop (j + 1)) (wrap64 (d + 1)) = some (t2, r2)) ∧ t = t1 ++ t2 := by
          rcases hcase with ⟨_, t2, h2, rfl⟩ | ⟨h, _⟩
          · exact ⟨t2, ⟨h2⟩, rfl⟩
          · exact absurd rfl h
        clear hcase
        go_wp2_with (go_at_call 37; (with_reducible refine (IH.out X A' c' (wrap64 (d + 1)) acc b t1 0 w0 _ HI'.out HL'.out ?c1 ?c2 hlen.out HF1.out).mono ?_); (case c1 => exact below_alloc HBr.out _); (case c2 => exact bld_alloc HIr.out _); rintro e w4 ⟨rfl, hI4, hb4, hk4⟩; have HI4 := Aside0.mk hI4; have HB4 := Aside0.mk hb4; have HK4 := Aside0.mk ((HKr.out.trans (KeepT.below (below_alloc (Below.refl wr.heap.size wr) _))).trans hk4); clear hI4 hb4 hk4)
        go_roundw
        case rel => exact ⟨j + 1, acc ++ t1.data.toList, t2, by go_num, by omega, HT2, ⟨by rw [← HE.out, data_append, List.append_assoc]⟩, HI4, HB4, HK4⟩
        case measure => simp [intOf]; omega
      · obtain ⟨rfl, rfl⟩ : t = t1 ∧ r2 = e1 := by
          rcases hcase with ⟨h, _⟩ | ⟨_, h1, h2⟩
          · exact absurd h he
          · exact ⟨h1, h2⟩
        have he1 : (r2 == 0) = false := beq_eq_false_iff_ne.mpr he
        have he2 : (r2 != 0) = true := bne_iff_ne.mpr he
        clear hcase he
        go_wp2_with (go_at_call 37; (with_reducible refine (IH.out X A' c' (wrap64 (d + 1)) acc b t r2 w0 _ HI'.out HL'.out ?c1 ?c2 hlen.out HF1.out).mono ?_); (case c1 => exact below_alloc HBr.out _); (case c2 => exact bld_alloc HIr.out _); rintro e w4 ⟨rfl, hI4, hb4, hk4⟩; have HI4 := Aside0.mk hI4; have HB4 := Aside0.mk hb4; have HK4 := Aside0.mk ((HKr.out.trans (KeepT.below (below_alloc (Below.refl wr.heap.size wr) _))).trans hk4); clear hI4 hb4 hk4)
        go_ret
        exact ⟨rfl, by rw [← HE.out]; exact HI4.out, HB4.out, HK4.out⟩
    · have hd' : l3.drop j = [] := List.drop_eq_nil_of_le (by omega)
      have e := HT.out
      rw [hd'] at e
      simp only [putL, Option.some.injEq, Prod.mk.injEq] at e
      obtain ⟨rfl, rfl⟩ := e
      obtain rfl : j = l3.length := by omega
      clear hlt HT hd'
      go_wp2
      go_ret
      exact ⟨rfl, by rw [← HE.out]; simpa using HIr.out, HBr.out, HKr.out⟩
/-- pack.put: what it puts behind what stands in the builder, and its error -/
theorem pack_put.calls (k : Nat) : ∀ (a0 a1 : Int) (a2 : ByteArray) (A3 : Option Addr) (c3 : Nat) (l3 : List S51) (d : Int) (bs : List UInt8) (b : Nat) (r1 : ByteArray) (r2 : Int) (w0 w : World), Kd.C k51 w0 A3 l3.length l3 → l3.length ≤ c3 →
    Below w0.heap.size w0 w → Lib.IsBuilder 81 5 w0.heap.size b (Lib.byteCells bs) w → bs.length + r1.size ≤ 140737488355328 → pack_put.f k a0 a1 a2 l3 d = some (r1, r2) →
    Calls Tryd.prog 37 #[.pointer (some ⟨b, 0, none⟩), .agg #[.int .i64 a0, .int .i64 a1, .string a2, .slice A3 l3.length c3], .int .i64 d] w fun e w' =>
      e = .returned (.int .i64 r2) ∧ Lib.IsBuilder 81 5 w0.heap.size b (Lib.byteCells (bs ++ r1.data.toList)) w' ∧ Below w0.heap.size w0 w' ∧ KeepT b w w' := by
  induction k with
  | zero => intro a0 a1 a2 A3 c3 l3 d bs b r1 r2 w0 w _ _ _ _ _ h; simp [pack_put.f] at h
  | succ k ih =>
    intro a0 a1 a2 A3 c3 l3 d bs b r1 r2 w0 w hr hc HB hI hlen h
    have z0 : (⟨#[]⟩ : ByteArray).data.toList = [] := rfl
    simp only [pack_put.f] at h
    by_cases h0 : a0 = 0
    · rw [if_pos h0] at h
      by_cases hn : -9223372036854775808 ≤ a1 ∧ a1 ≤ 9223372036854775807
      · rw [if_pos hn] at h
        simp only [Option.some.injEq, Prod.mk.injEq] at h
        obtain ⟨rfl, rfl⟩ := h
        subst h0
        exact put_int a1 a2 A3 l3.length c3 d bs b w0 w hn HB hI hlen
      · rw [if_neg hn] at h; cases h
    rw [if_neg h0] at h
    by_cases h1 : a0 = 1
    · rw [if_pos h1] at h
      subst h1
      by_cases h2 : (a2.size : Int) > 4096
      · rw [if_pos h2] at h
        simp only [Option.some.injEq, Prod.mk.injEq] at h
        obtain ⟨rfl, rfl⟩ := h
        rw [z0]
        exact put_text_long a1 a2 A3 l3.length c3 d bs b w0 w (by omega) HB hI
      · rw [if_neg h2] at h
        simp only [Option.some.injEq, Prod.mk.injEq] at h
        obtain ⟨rfl, rfl⟩ := h
        exact put_text a1 a2 A3 l3.length c3 d bs b w0 w (by omega) HB hI hlen
    rw [if_neg h1] at h
    by_cases h2 : a0 = 2
    · rw [if_pos h2] at h
      subst h2
      by_cases h3 : (l3.length : Int) > 256
      · rw [if_pos h3] at h
        simp only [Option.some.injEq, Prod.mk.injEq] at h
        obtain ⟨rfl, rfl⟩ := h
        rw [z0]
        exact put_list_long a1 a2 A3 l3.length c3 d bs b w0 w (by omega) HB hI
      rw [if_neg h3] at h
      by_cases h4 : d ≥ 8
      · rw [if_pos h4] at h
        simp only [Option.some.injEq, Prod.mk.injEq] at h
        obtain ⟨rfl, rfl⟩ := h
        rw [z0]
        exact put_list_deep a1 a2 A3 l3.length c3 d bs b w0 w (by omega) h4 HB hI
      rw [if_neg h4] at h
      obtain ⟨⟨u, r⟩, hu, hh⟩ := Option.bind_eq_some_iff.mp h
      simp only [Option.some.injEq, Prod.mk.injEq] at hh
      obtain ⟨rfl, rfl⟩ := hh
      exact put_list (fun x e => pack_put.f k x.f0 x.f1 x.f2 x.f3 e) (fun x A c e bs b r1 r2 w0 w g1 g2 g3 g4 g5 g6 => ih x.f0 x.f1 x.f2 A c x.f3 e bs b r1 r2 w0 w g1 g2 g3 g4 g5 g6) a1 a2 A3 c3 l3 d bs b u r w0 w hr hc (by omega) (by omega) HB hI hlen hu
    · rw [if_neg h2] at h
      simp only [Option.some.injEq, Prod.mk.injEq] at h
      obtain ⟨rfl, rfl⟩ := h
      rw [z0]
      exact put_other a1 a2 A3 l3.length c3 d bs b w0 w a0 h0 h1 h2 HB hI
end Go.Proofs.YtpbnfnaebdmagaaDoor.Pk
namespace Go.Proofs.YtpbnfnaebdmagaaDoor.Pk
set_option linter.unusedVariables false
set_option linter.unusedSimpArgs false
open Go Go.RowKit Go.Proofs.YtpbnfnaebdmagaaDoor.Plain Go.Proofs.YtpbnfnaebdmagaaDoor.WordsA Go.Proofs.YtpbnfnaebdmagaaDoor.Bld Go.Proofs.YtpbnfnaebdmagaaDoor.PT Go.Proofs.YtpbnfnaebdmagaaDoorW.PrintWords Go.Proofs.YtpbnfnaebdmagaaDoorW.PrintLast Go.Proofs.YtpbnfnaebdmagaaDoorW.PrintMore
theorem byteCells_nil : Lib.byteCells [] = [] := rfl
set_option maxHeartbeats 4000000 in
set_option maxRecDepth 100000 in
/-- pack.Put: a value's bytes, or its error -/
theorem pack_Put.calls0 (k : Nat) (a0 a1 : Int) (a2 : ByteArray) (A3 : Option Addr) (c3 : Nat) (l3 : List S51) (r1 : ByteArray) (r2 : Int) (w : World) (hr : Kd.C k51 w A3 l3.length l3) (hc : l3.length ≤ c3)
    (hlen : r1.size ≤ 140737488355328) (h : pack_put.f k a0 a1 a2 l3 0 = some (r1, r2)) :
    Calls Tryd.prog 23 #[.agg #[.int .i64 a0, .int .i64 a1, .string a2, .slice A3 l3.length c3]] w fun e w' =>
      e = .returned (.tuple #[.string (if r2 = 0 then r1 else ⟨#[]⟩), .int .i64 r2]) ∧ Below w.heap.size w w' := by
  have HR := Aside0.mk hr
  have HC := Aside0.mk hc
  have HF := Aside0.mk h
  have HL : Hid (([] : List UInt8).length + r1.size ≤ 140737488355328) := Lib.hid (by simpa using hlen)
  clear hr hc h hlen
  have hu := Tryd.underlying51
  have hca := Aside0.mk (Kd.C_alloc HR.out (.cells #[.int .i64 a0, .int .i64 a1, .string a2, .slice A3 l3.length c3] 51))
  have hfb : Aside0 (Lib.IsBuilder 81 5 (w.alloc (.cells #[.int .i64 a0, .int .i64 a1, .string a2, .slice A3 l3.length c3] 51)).heap.size (w.heap.size + 1) [] ((w.alloc (.cells #[.int .i64 a0, .int .i64 a1, .string a2, .slice A3 l3.length c3] 51)).alloc (.cells #[.pointer none, .slice none 0 0] 81))) := by
    have key : ∀ n, n = (w.alloc (.cells #[.int .i64 a0, .int .i64 a1, .string a2, .slice A3 l3.length c3] 51)).heap.size → Lib.IsBuilder 81 5 (w.alloc (.cells #[.int .i64 a0, .int .i64 a1, .string a2, .slice A3 l3.length c3] 51)).heap.size n [] ((w.alloc (.cells #[.int .i64 a0, .int .i64 a1, .string a2, .slice A3 l3.length c3] 51)).alloc (.cells #[.pointer none, .slice none 0 0] 81)) := by
      rintro n rfl; exact Lib.fresh_isBuilder _ _ _
    exact ⟨key _ (by show _ = (w.heap.push _).size; exact Array.size_push _ |>.symm)⟩
  have hb0 := Aside0.mk (below_alloc (Below.refl w.heap.size w) (.cells #[.int .i64 a0, .int .i64 a1, .string a2, .slice A3 l3.length c3] 51))
  have hst : Aside0 (∀ (w1 w2 : World), Below (w.alloc (.cells #[.int .i64 a0, .int .i64 a1, .string a2, .slice A3 l3.length c3] 51)).heap.size (w.alloc (.cells #[.int .i64 a0, .int .i64 a1, .string a2, .slice A3 l3.length c3] 51)) w1 → Below (w.alloc (.cells #[.int .i64 a0, .int .i64 a1, .string a2, .slice A3 l3.length c3] 51)).heap.size w1 w2 → Below w.heap.size w w2) := ⟨fun w1 w2 h1 h2 => below_step' hb0.out (h1.trans h2)⟩
  by_cases h0 : r2 = 0
  · subst h0
    go_enter Tryd.func23, Tryd.ntmps23
    go_wp2_with (first
      | (go_at_call 37; go_loud (with_reducible refine (pack_put.calls k a0 a1 a2 A3 c3 l3 0 [] _ r1 0 (w.alloc (.cells #[.int .i64 a0, .int .i64 a1, .string a2, .slice A3 l3.length c3] 51)) _ hca.out HC.out ?c1 ?c2 HL.out HF.out).mono ?_); (case c1 => exact below_alloc (Below.refl _ _) _); (case c2 => exact hfb.out); rintro e w1 ⟨rfl, hI1, hb1, hk1⟩; have HI1 := Aside0.mk hI1; have HB1 := Aside0.mk hb1; clear hI1 hb1 hk1)
      | (go_at_call 38; (with_reducible refine (string_any _ _ _ _ HI1.out ?c1).mono ?_); (case c1 => exact HB1.out.size); rintro e w2 ⟨rfl, hb2⟩; have HB2 := Aside0.mk (hst.out _ _ HB1.out hb2); clear hb2))
    go_ret2
    exact ⟨by simp, HB2.out⟩
  · have e1 : (r2 == 0) = false := beq_eq_false_iff_ne.mpr h0
    have e2 : (r2 != 0) = true := bne_iff_ne.mpr h0
    have hi : (if r2 = 0 then r1 else (⟨#[]⟩ : ByteArray)) = ⟨#[]⟩ := if_neg h0
    rw [hi]
    clear hi h0
    go_enter Tryd.func23, Tryd.ntmps23
    go_wp2_with (go_at_call 37; (with_reducible refine (pack_put.calls k a0 a1 a2 A3 c3 l3 0 [] _ r1 r2 (w.alloc (.cells #[.int .i64 a0, .int .i64 a1, .string a2, .slice A3 l3.length c3] 51)) _ hca.out HC.out ?c1 ?c2 HL.out HF.out).mono ?_); (case c1 => exact below_alloc (Below.refl _ _) _); (case c2 => exact hfb.out); rintro e w1 ⟨rfl, hI1, hb1, hk1⟩; have HI1 := Aside0.mk hI1; have HB1 := Aside0.mk hb1; clear hI1 hb1 hk1)
    go_ret2
    exact ⟨rfl, hst.out _ _ HB1.out (Below.refl _ _)⟩
def pack_Put.f (k : Nat) (a0 a1 : Int) (a2 : ByteArray) (l3 : List S51) : Option (ByteArray × Int) :=
  (pack_put.f k a0 a1 a2 l3 0).bind fun t => if t.1.size ≤ 140737488355328 then some (if t.2 = 0 then t.1 else (⟨#[]⟩ : ByteArray), t.2) else none
theorem pack_Put.calls (k : Nat) (a0 a1 : Int) (a2 : ByteArray) (A3 : Option Addr) (c3 : Nat) (l3 : List S51) (r1 : ByteArray) (r2 : Int) (w : World) (hr : Kd.C k51 w A3 l3.length l3) (hc : l3.length ≤ c3)
    (h : pack_Put.f k a0 a1 a2 l3 = some (r1, r2)) :
    Calls Tryd.prog 23 #[.agg #[.int .i64 a0, .int .i64 a1, .string a2, .slice A3 l3.length c3]] w fun e w' =>
      e = .returned (.tuple #[.string r1, .int .i64 r2]) ∧ Below w.heap.size w w' := by
  obtain ⟨⟨t1, t2⟩, h1, h2⟩ := Option.bind_eq_some_iff.mp h
  dsimp only at h2
  by_cases c : t1.size ≤ 140737488355328
  · rw [if_pos c] at h2
    simp only [Option.some.injEq, Prod.mk.injEq] at h2
    obtain ⟨rfl, rfl⟩ := h2
    exact pack_Put.calls0 k a0 a1 a2 A3 c3 l3 t1 t2 w hr hc c h1
  · rw [if_neg c] at h2; cases h2
theorem putL_mono {f g : S51 → Int → Option (ByteArray × Int)} (h : ∀ x e, LeO (f x e) (g x e)) : ∀ l d, LeO (putL f l d) (putL g l d)
  | [], _ => LeO.refl _
  | x :: r, d => by
    unfold putL
    exact LeO.bind (h x d) (fun t => LeO.ite (LeO.bind (putL_mono h r d) (fun _ => LeO.refl _)) (LeO.refl _))
theorem pack_put.mono : ∀ k a0 a1 a2 l3 d, LeO (pack_put.f k a0 a1 a2 l3 d) (pack_put.f (k + 1) a0 a1 a2 l3 d)
  | 0, _, _, _, _, _ => LeO.none _
  | k + 1, a0, a1, a2, l3, d => by
    unfold pack_put.f
    refine LeO.ite (LeO.refl _) (LeO.ite (LeO.refl _) (LeO.ite (LeO.ite (LeO.refl _) (LeO.ite (LeO.refl _) (LeO.bind (putL_mono (fun x e => pack_put.mono k _ _ _ _ _) _ _) (fun _ => LeO.refl _)))) (LeO.refl _)))
theorem pack_Put.mono (k : Nat) (a0 a1 : Int) (a2 : ByteArray) (l3 : List S51) : LeO (pack_Put.f k a0 a1 a2 l3) (pack_Put.f (k + 1) a0 a1 a2 l3) := LeO.bind (pack_put.mono k a0 a1 a2 l3 0) (fun _ => LeO.refl _)
end Go.Proofs.YtpbnfnaebdmagaaDoor.Pk
-- printed by a program of this session out of the translation; see NOTES.md
namespace Go.Proofs.YtpbnfnaebdmagaaDoor.PT
open Go.RowKit Go.Proofs.YtpbnfnaebdmagaaDoorW.PrintWords Go.Proofs.YtpbnfnaebdmagaaDoorW.PrintLast Go.Proofs.YtpbnfnaebdmagaaDoorW.PrintMore
attribute [local go_sem] max2_int min2_int max_two min_two max_three min_three max_four min_four   -- for this text's walks alone
set_option linter.unusedVariables false
set_option linter.unusedSimpArgs false

/-! ### pack_Put: function 23 -/
def pack_Put.f (k : Nat) (a0_0 : Int) (a0_1 : Int) (a0_2 : ByteArray) (l0_3 : List (S51)) : Option (ByteArray × Int) := Pk.pack_Put.f k a0_0 a0_1 a0_2 l0_3
theorem pack_Put.mono : ∀ a0 a1 a2 a3 k, LeO (pack_Put.f k a0 a1 a2 a3) (pack_Put.f (k + 1) a0 a1 a2 a3) := fun a0 a1 a2 a3 k => Pk.pack_Put.mono k a0 a1 a2 a3
theorem pack_Put.calls (k : Nat) (a0_0 : Int) (a0_1 : Int) (a0_2 : ByteArray) (A0_3 : Option Addr) (c0_3 : Nat) (l0_3 : List (S51)) (r1 : ByteArray) (r2 : Int) (w : World) (hr0_3 : Kd.C k51 w A0_3 l0_3.length l0_3) (hc0_3 : l0_3.length ≤ c0_3) (h : pack_Put.f k a0_0 a0_1 a0_2 l0_3 = some (r1, r2)) :
  Calls Tryd.prog 23 #[.agg #[.int .i64 a0_0, .int .i64 a0_1, .string a0_2, .slice A0_3 l0_3.length c0_3]] w fun e w' => e = .returned (.tuple #[.string r1, .int .i64 r2]) ∧ Below w.heap.size w w' := Pk.pack_Put.calls k a0_0 a0_1 a0_2 A0_3 c0_3 l0_3 r1 r2 w hr0_3 hc0_3 h

end Go.Proofs.YtpbnfnaebdmagaaDoor.PT
namespace Go.Proofs.YtpbnfnaebdmagaaDoor.Pv
set_option linter.unusedVariables false
set_option linter.unusedSimpArgs false
open Go Go.RowKit Go.Proofs.YtpbnfnaebdmagaaDoor.Plain Go.Proofs.YtpbnfnaebdmagaaDoor.WordsA Go.Proofs.YtpbnfnaebdmagaaDoor.Pk Go.Proofs.YtpbnfnaebdmagaaDoor.Vs Go.Proofs.YtpbnfnaebdmagaaDoor.PT Go.Proofs.YtpbnfnaebdmagaaDoorW.PrintWords Go.Proofs.YtpbnfnaebdmagaaDoorW.PrintLast Go.Proofs.YtpbnfnaebdmagaaDoorW.PrintMore
mutual
def putV : V → Int → ByteArray × Int
  | ⟨a, b, c, l⟩, d => if a = 0 then (intB b, 0) else if a = 1 then (if (c.size : Int) > 4096 then (⟨#[]⟩, 5) else ((⟨#[2]⟩ : ByteArray) ++ (textR c).1, 0))
    else if a = 2 then (if (l.length : Int) > 256 then (⟨#[]⟩, 5) else if d ≥ 8 then (⟨#[]⟩, 5) else (headB l.length (putVs l (d + 1)).1, (putVs l (d + 1)).2)) else (⟨#[]⟩, 2)
def putVs : List V → Int → ByteArray × Int
  | [], _ => (⟨#[]⟩, 0)
  | x :: r, d => if (putV x d).2 = 0 then ((putV x d).1 ++ (putVs r d).1, (putVs r d).2) else ((putV x d).1, (putV x d).2)
end
mutual
/-- its numbers are numbers -/
def Wf : V → Prop
  | ⟨_, b, _, l⟩ => (-9223372036854775808 ≤ b ∧ b ≤ 9223372036854775807) ∧ Wfs l
def Wfs : List V → Prop
  | [] => True
  | x :: l => Wf x ∧ Wfs l
end
mutual
def nodes : V → Nat
  | ⟨_, _, _, l⟩ => 1 + nodess l
def nodess : List V → Nat
  | [] => 0
  | x :: l => nodes x + nodess l
end
theorem Wfs_iff : ∀ l, Wfs l ↔ ∀ x ∈ l, Wf x
  | [] => by simp [Wfs]
  | x :: l => by simp [Wfs, Wfs_iff l]
theorem size_app (a b : ByteArray) : (a ++ b).size = a.size + b.size := ByteArray.size_append
theorem wdl_le (n : Int) : ∀ k, wdl k n ≤ k
  | 0 => Nat.le_refl _
  | k + 1 => by
    unfold wdl
    split
    · have := wdl_le (n / 256) k; omega
    · omega
theorem size_int (b : Int) : (intB b).size ≤ 20 := by
  unfold intB
  rw [size_app, size_app, size_put, size_put]
  have : (⟨#[1]⟩ : ByteArray).size = 1 := rfl
  omega
mutual
theorem size_putV : ∀ (x : V) (d : Int), (putV x d).1.size ≤ 4200 * nodes x
  | ⟨a, b, c, l⟩, d => by
    have hz : (⟨#[]⟩ : ByteArray).size = 0 := rfl
    have h2 : (⟨#[2]⟩ : ByteArray).size = 1 := rfl
    have h3 : (⟨#[3]⟩ : ByteArray).size = 1 := rfl
    have hi := size_int b
    simp only [putV, nodes]
    split
    · show (intB b).size ≤ _; omega
    · split
      · split
        · show (⟨#[]⟩ : ByteArray).size ≤ _; omega
        · show ((⟨#[2]⟩ : ByteArray) ++ (textR c).1).size ≤ _
          rw [size_app]
          unfold textR
          split
          · show _ + (⟨#[]⟩ : ByteArray).size ≤ _; omega
          · show _ + (put 2 c.size ++ c).size ≤ _
            rw [size_app, size_put]; omega
      · split
        · split
          · show (⟨#[]⟩ : ByteArray).size ≤ _; omega
          · split
            · show (⟨#[]⟩ : ByteArray).size ≤ _; omega
            · have := size_putVs l (d + 1)
              show (headB l.length (putVs l (d + 1)).1).size ≤ _
              unfold headB
              rw [size_app, size_app, size_put]; omega
        · show (⟨#[]⟩ : ByteArray).size ≤ _; omega
theorem size_putVs : ∀ (l : List V) (d : Int), (putVs l d).1.size ≤ 4200 * nodess l
  | [], d => Nat.zero_le _
  | x :: r, d => by
    have h1 := size_putV x d
    have h2 := size_putVs r d
    simp only [putVs, nodess]
    split
    · show ((putV x d).1 ++ (putVs r d).1).size ≤ _
      rw [size_app]; omega
    · show (putV x d).1.size ≤ _; omega
end
theorem pput_le {a b : Int} {c : ByteArray} {l : List V} {d : Int} {K K' : Nat} (h : K ≤ K') {r} (e : pack_put.f K a b c l d = some r) : pack_put.f K' a b c l d = some r := up_le (fun k => pack_put.mono k a b c l d) h e
theorem putL_le {f g : V → Int → Option (ByteArray × Int)} (h : ∀ x e r, f x e = some r → g x e = some r) (l : List V) (d : Int) {r} (e : putL f l d = some r) : putL g l d = some r := putL_mono (fun x e r hr => h x e r hr) l d r e
mutual
theorem pput_some : ∀ (x : V) (d : Int), 0 ≤ d → d ≤ 8 → Wf x → ∃ K, pack_put.f K x.f0 x.f1 x.f2 x.f3 d = some (putV x d)
  | ⟨a, b, c, l⟩, d, h0, h1, hw => by
    simp only [Wf] at hw
    by_cases c0 : a = 0
    · refine ⟨1, ?_⟩
      simp only [pack_put.f, putV]
      rw [if_pos c0, if_pos c0, if_pos hw.1]
    by_cases c1 : a = 1
    · refine ⟨1, ?_⟩
      simp only [pack_put.f, putV]
      rw [if_neg c0, if_neg c0, if_pos c1, if_pos c1]
      split <;> rfl
    by_cases c2 : a = 2
    · by_cases c3 : (l.length : Int) > 256
      · refine ⟨1, ?_⟩
        simp only [pack_put.f, putV]
        rw [if_neg c0, if_neg c0, if_neg c1, if_neg c1, if_pos c2, if_pos c2, if_pos c3, if_pos c3]
      by_cases c4 : d ≥ 8
      · refine ⟨1, ?_⟩
        simp only [pack_put.f, putV]
        rw [if_neg c0, if_neg c0, if_neg c1, if_neg c1, if_pos c2, if_pos c2, if_neg c3, if_neg c3, if_pos c4, if_pos c4]
      obtain ⟨K, hK⟩ := pputs_some l (d + 1) (by omega) (by omega) hw.2
      have e1 : wrap64 (d + 1) = d + 1 := by unfold wrap64; omega
      refine ⟨K + 1, ?_⟩
      simp only [pack_put.f, putV]
      rw [if_neg c0, if_neg c0, if_neg c1, if_neg c1, if_pos c2, if_pos c2, if_neg c3, if_neg c3, if_neg c4, if_neg c4, e1, hK]
      rfl
    · refine ⟨1, ?_⟩
      simp only [pack_put.f, putV]
      rw [if_neg c0, if_neg c0, if_neg c1, if_neg c1, if_neg c2, if_neg c2]
theorem pputs_some : ∀ (l : List V) (d : Int), 0 ≤ d → d ≤ 8 → Wfs l → ∃ K, putL (fun x e => pack_put.f K x.f0 x.f1 x.f2 x.f3 e) l d = some (putVs l d)
  | [], d, _, _, _ => ⟨0, rfl⟩
  | x :: r, d, h0, h1, hw => by
    simp only [Wfs] at hw
    obtain ⟨K1, e1⟩ := pput_some x d h0 h1 hw.1
    obtain ⟨K2, e2⟩ := pputs_some r d h0 h1 hw.2
    refine ⟨max K1 K2, ?_⟩
    simp only [putL, putVs]
    rw [pput_le (Nat.le_max_left K1 K2) e1, Option.bind_some]
    by_cases c : (putV x d).2 = 0
    · rw [if_pos c, if_pos c, putL_le (fun x e r hr => pput_le (Nat.le_max_right K1 K2) hr) r d e2]
      rfl
    · rw [if_neg c, if_neg c]
end
/-- pack.Put of a value -/
theorem packPut_some (x : V) (hw : Wf x) (hs : (putV x 0).1.size ≤ 140737488355328) : ∃ K, ∀ k, K ≤ k → Go.Proofs.YtpbnfnaebdmagaaDoor.PT.pack_Put.f k x.f0 x.f1 x.f2 x.f3 = some (if (putV x 0).2 = 0 then (putV x 0).1 else (⟨#[]⟩ : ByteArray), (putV x 0).2) := by
  obtain ⟨K, hK⟩ := pput_some x 0 (by omega) (by omega) hw
  refine ⟨K, fun k hk => ?_⟩
  show (pack_put.f k x.f0 x.f1 x.f2 x.f3 0).bind _ = _
  rw [pput_le hk hK, Option.bind_some, if_pos hs]
/-! #### the document's -/
theorem wdl_eq (m : Nat) : ∀ (k : Nat) (n : Int), (256 : Int) ^ m ≤ n → n < 256 ^ (m + 1) → m + 1 ≤ k → wdl k n = m + 1 := by
  induction m with
  | zero =>
    intro k n h0 h1 hk
    cases k with
    | zero => exact absurd hk (by decide)
    | succ k =>
      rw [Int.pow_zero] at h0
      rw [Nat.zero_add, Int.pow_succ, Int.pow_zero, Int.one_mul] at h1
      have hn : n > 0 := by omega
      have : n / 256 = 0 := by omega
      rw [wdl_step k n hn, this]
      cases k <;> simp [wdl]
  | succ m ih =>
    intro k n h0 h1 hk
    cases k with
    | zero => exact absurd hk (Nat.not_succ_le_zero _)
    | succ k =>
      have hp : (0 : Int) < 256 ^ m := Int.pow_pos (by decide)
      have h0' : (256 : Int) ^ m * 256 ≤ n := by rw [← Int.pow_succ]; exact h0
      have h1' : n < (256 : Int) ^ (m + 1) * 256 := by rw [← Int.pow_succ]; exact h1
      generalize hq : (256 : Int) ^ m = q at h0' hp ih
      generalize hq1 : (256 : Int) ^ (m + 1) = q1 at h1' ih
      have hn : n > 0 := by omega
      rw [wdl_step k n hn, ih k (n / 256) (by omega) (by omega) (by omega)]
theorem wdl_zero (k : Nat) : wdl k 0 = 0 := by cases k <;> simp [wdl]
theorem nums_cut (x : Int) (xs : List Int) : (strOfNums (x :: xs)).extract 1 (strOfNums (x :: xs)).size = strOfNums xs := by
  apply ByteArray.ext
  simp [strOfNums, ByteArray.size]
  exact List.take_of_length_le (by simp)
theorem foldR_range {b : Int} (h : -9223372036854775808 ≤ b ∧ b ≤ 9223372036854775807) : 0 ≤ foldR b ∧ foldR b < 18446744073709551616 := by
  unfold foldR; split <;> omega
theorem intB_eq (b : Int) (h : -9223372036854775808 ≤ b ∧ b ≤ 9223372036854775807) : intB b = strOfNums [1, (wdl 9 (foldR b) : Int)] ++ strOfNums (puts (wdl 9 (foldR b)) (foldR b)) := by
  have hw : wdl 9 (foldR b) ≤ 8 := by
    have r := foldR_range h
    have h9 := wdl_le (foldR b) 8
    have h8 : (256 : Int) ^ 8 = 18446744073709551616 := by decide
    have e : wdl 9 (foldR b) = wdl 8 (foldR b) := wdl_more 8 (foldR b) (by omega)
    omega
  unfold intB put
  have e1 : (max (0 : Int) (min 1 8)).toNat = 1 := rfl
  have e2 : (max (0 : Int) (min (wdl 9 (foldR b) : Int) 8)).toNat = wdl 9 (foldR b) := by omega
  rw [e1, e2]
  congr 1
  have e3 : puts 1 (wdl 9 (foldR b) : Int) = [(wdl 9 (foldR b) : Int) % 256] := rfl
  rw [e3, show (wdl 9 (foldR b) : Int) % 256 = (wdl 9 (foldR b) : Int) by omega]
  rw [show (⟨#[1]⟩ : ByteArray) = strOfNums [1] from rfl, ← strOfNums_append]
  rfl
end Go.Proofs.YtpbnfnaebdmagaaDoor.Pv
namespace Go.Proofs.YtpbnfnaebdmagaaDoor.Co
set_option linter.unusedVariables false
set_option linter.unusedSimpArgs false
open Go Go.RowKit Go.Proofs.YtpbnfnaebdmagaaDoor.Plain Go.Proofs.YtpbnfnaebdmagaaDoor.Words Go.Proofs.YtpbnfnaebdmagaaDoor.Vr Go.Proofs.YtpbnfnaebdmagaaDoor.Vs Go.Proofs.YtpbnfnaebdmagaaDoor.Pk Go.Proofs.YtpbnfnaebdmagaaDoor.Pv Go.Proofs.YtpbnfnaebdmagaaDoor.PT Go.Proofs.YtpbnfnaebdmagaaDoorW.PrintWords Go.Proofs.YtpbnfnaebdmagaaDoorW.PrintLast Go.Proofs.YtpbnfnaebdmagaaDoorW.PrintMore
abbrev mk := Rr.mkV
abbrev no := Rr.noV
/-! #### numbers -/
theorem wdl_spec : ∀ (k : Nat) (n : Int), 0 < n → n < 256 ^ k → 1 ≤ wdl k n ∧ wdl k n ≤ k ∧ (256 : Int) ^ (wdl k n - 1) ≤ n ∧ n < 256 ^ wdl k n
  | 0, n, h0, h1 => by rw [Int.pow_zero] at h1; omega
  | k + 1, n, h0, h1 => by
    rw [wdl_step k n h0]
    by_cases c : n < 256
    · have : n / 256 = 0 := by omega
      rw [this, wdl_zero]
      refine ⟨by omega, by omega, ?_, ?_⟩
      · show (256 : Int) ^ 0 ≤ n; rw [Int.pow_zero]; omega
      · show n < (256 : Int) ^ (0 + 1); rw [Nat.zero_add, Int.pow_succ, Int.pow_zero]; omega
    · have h1' : n < (256 : Int) ^ k * 256 := by rw [← Int.pow_succ]; exact h1
      have ih := wdl_spec k (n / 256) (by omega) (by omega)
      obtain ⟨m, hm⟩ : ∃ m, wdl k (n / 256) = m + 1 := ⟨wdl k (n / 256) - 1, by omega⟩
      rw [hm] at ih ⊢
      obtain ⟨_, i2, i3, i4⟩ := ih
      rw [Nat.add_sub_cancel] at i3
      refine ⟨by omega, by omega, ?_, ?_⟩
      · rw [Nat.add_sub_cancel, Int.pow_succ]; omega
      · rw [Int.pow_succ]; omega
theorem fold_back {b : Int} (h : -9223372036854775808 ≤ b ∧ b ≤ 9223372036854775807) : (if foldR b % 2 = 0 then foldR b / 2 else -(foldR b / 2) - 1) = b := by
  unfold foldR
  by_cases c : 0 ≤ b
  · rw [if_pos c, if_pos (by omega)]; omega
  · rw [if_neg c, if_neg (by omega)]; omega
theorem width {b : Int} (h : -9223372036854775808 ≤ b ∧ b ≤ 9223372036854775807) : wdl 9 (foldR b) ≤ 8 := by
  have r := foldR_range h
  have h9 := wdl_le (foldR b) 8
  have h8 : (256 : Int) ^ 8 = 18446744073709551616 := by decide
  have e : wdl 9 (foldR b) = wdl 8 (foldR b) := wdl_more 8 (foldR b) (by omega)
  omega
/-! #### values read back -/
mutual
def norm : V → V
  | ⟨a, b, c, l⟩ => if a = 0 then ⟨0, b, ⟨#[]⟩, []⟩ else if a = 1 then ⟨1, 0, c, []⟩ else ⟨2, 0, ⟨#[]⟩, norms l⟩
def norms : List V → List V
  | [] => []
  | x :: l => norm x :: norms l
end
theorem intR_back (A R : ByteArray) {b : Int} (h : -9223372036854775808 ≤ b ∧ b ≤ 9223372036854775807) : intR (A ++ ((put 1 (wdl 9 (foldR b)) ++ put (wdl 9 (foldR b)) (foldR b)) ++ R)) A.size = (0, b, (A.size : Int) + 1 + (wdl 9 (foldR b) : Int)) := by
  have r := foldR_range h
  have hw := width h
  have h9 : (256 : Int) ^ 9 = 4722366482869645213696 := by decide
  have g1 := get_put A (put (wdl 9 (foldR b)) (foldR b) ++ R) 1 (wdl 9 (foldR b)) (by omega) (by omega) (by omega)
  have e1 : A ++ ((put 1 (wdl 9 (foldR b)) ++ put (wdl 9 (foldR b)) (foldR b)) ++ R) = A ++ (put 1 (wdl 9 (foldR b)) ++ (put (wdl 9 (foldR b)) (foldR b) ++ R)) := by rw [ByteArray.append_assoc]
  have e2 : (wdl 9 (foldR b) : Int) % 256 ^ (1 : Int).toNat = (wdl 9 (foldR b) : Int) := by
    have : (256 : Int) ^ (1 : Int).toNat = 256 := rfl
    rw [this]; omega
  rw [e2] at g1
  unfold intR
  rw [e1, g1]
  dsimp only
  rw [if_pos rfl, if_neg (by omega)]
  by_cases c : foldR b = 0
  · have hb : b = 0 := by unfold foldR at c; split at c <;> omega
    rw [c, wdl_zero, hb]
    simp
  · have sp := wdl_spec 9 (foldR b) (by omega) (by omega)
    have hne : ¬ ((wdl 9 (foldR b) : Int) = 0) := by omega
    rw [if_neg hne]
    have g2 := get_put (A ++ put 1 (wdl 9 (foldR b))) R (wdl 9 (foldR b)) (foldR b) r.1 (by omega) (by omega)
    have e3 : (A ++ put 1 (wdl 9 (foldR b))).size = A.size + 1 := by rw [size_app, size_put]; rfl
    rw [e3, ByteArray.append_assoc] at g2
    have e4 : foldR b % 256 ^ (wdl 9 (foldR b) : Int).toNat = foldR b := by rw [Int.toNat_natCast]; exact Int.emod_eq_of_lt r.1 sp.2.2.2
    rw [e4] at g2
    rw [show ((A.size : Int) + 1) = ((A.size + 1 : Nat) : Int) from rfl, g2]
    dsimp only
    have e5 : foldR b / 2 ^ (8 * ((wdl 9 (foldR b) : Int) - 1)).toNat ≠ 0 := by
      rw [show (8 * ((wdl 9 (foldR b) : Int) - 1)) = 8 * ((wdl 9 (foldR b) - 1 : Nat) : Int) by omega, pow8]
      have hp : (0 : Int) < 256 ^ (wdl 9 (foldR b) - 1) := Int.pow_pos (by decide)
      have : 1 ≤ foldR b / 256 ^ (wdl 9 (foldR b) - 1) := by rw [Int.le_ediv_iff_mul_le hp]; omega
      omega
    rw [if_pos rfl, if_neg e5, fold_back h]
theorem one_put (n : Int) (B : ByteArray) (h : B = put 1 n) (h0 : 0 ≤ n) (h1 : n < 256) (A R : ByteArray) : getR (A ++ (B ++ R)) A.size 1 = (n, (A.size : Int) + 1, 0) := by
  subst h
  rw [get_put A R 1 n h0 (by omega) (by omega)]
  have : (256 : Int) ^ (1 : Int).toNat = 256 := rfl
  rw [this, Int.emod_eq_of_lt h0 h1]
mutual
theorem val_back : ∀ (x : V) (d : Int) (k : Nat), 0 ≤ d → d ≤ 8 → 8 - d < k → Wf x → (putV x d).2 = 0 → ∀ A R : ByteArray, valR mk no k (A ++ ((putV x d).1 ++ R)) A.size d = some (0, norm x, (A.size : Int) + ((putV x d).1.size : Int))
  | _, _, 0, _, h1, h2, _, _, _, _ => absurd h2 (by omega)
  | ⟨a, b, c, l⟩, d, k + 1, h0, h1, h2, hw, he, A, R => by
    simp only [Wf] at hw
    have hn : norm ⟨a, b, c, l⟩ = if a = 0 then ⟨0, b, ⟨#[]⟩, []⟩ else if a = 1 then ⟨1, 0, c, []⟩ else ⟨2, 0, ⟨#[]⟩, norms l⟩ := by simp only [norm]
    by_cases c0 : a = 0
    · have hP : putV ⟨a, b, c, l⟩ d = (intB b, 0) := by simp only [putV]; rw [if_pos c0]
      rw [hP, hn, if_pos c0]
      have e0 : intB b = put 1 1 ++ (put 1 (wdl 9 (foldR b)) ++ put (wdl 9 (foldR b)) (foldR b)) := by unfold intB; rw [ByteArray.append_assoc]; rfl
      have e1 : (intB b).size = 2 + wdl 9 (foldR b) := by
        have := width hw.1
        rw [e0, size_app, size_app, size_put, size_put, size_put]
        have : (max (0 : Int) (min 1 8)).toNat = 1 := rfl
        omega
      have hk := one_put 1 (put 1 1) rfl (by omega) (by omega) A ((put 1 (wdl 9 (foldR b)) ++ put (wdl 9 (foldR b)) (foldR b)) ++ R)
      have hi := intR_back (A ++ put 1 1) R hw.1
      have e3 : (A ++ put 1 1).size = A.size + 1 := by rw [size_app, size_put]; rfl
      rw [e3] at hi
      have es : A ++ (intB b ++ R) = A ++ (put 1 1 ++ ((put 1 (wdl 9 (foldR b)) ++ put (wdl 9 (foldR b)) (foldR b)) ++ R)) := by rw [e0, ByteArray.append_assoc]
      have es2 : A ++ (put 1 1 ++ ((put 1 (wdl 9 (foldR b)) ++ put (wdl 9 (foldR b)) (foldR b)) ++ R)) = (A ++ put 1 1) ++ ((put 1 (wdl 9 (foldR b)) ++ put (wdl 9 (foldR b)) (foldR b)) ++ R) := by simp only [ByteArray.append_assoc]
      show valR mk no (k + 1) (A ++ (intB b ++ R)) A.size d = _
      simp only [valR]
      rw [es, hk]
      dsimp only
      rw [if_pos rfl, if_pos rfl, es2, show ((A.size : Int) + 1) = ((A.size + 1 : Nat) : Int) from rfl, hi]
      dsimp only
      rw [if_pos rfl, e1]
      simp only [Option.some.injEq, Prod.mk.injEq, true_and]
      omega
    by_cases c1 : a = 1
    · by_cases c2 : (c.size : Int) > 4096
      · have hP : putV ⟨a, b, c, l⟩ d = (⟨#[]⟩, 5) := by simp only [putV]; rw [if_neg c0, if_pos c1, if_pos c2]
        rw [hP] at he; exact absurd he (by decide)
      · have hP : putV ⟨a, b, c, l⟩ d = ((⟨#[2]⟩ : ByteArray) ++ (Go.Proofs.YtpbnfnaebdmagaaDoor.WordsA.textR c).1, 0) := by simp only [putV]; rw [if_neg c0, if_pos c1, if_neg c2]
        have ht : Go.Proofs.YtpbnfnaebdmagaaDoor.WordsA.textR c = (put 2 c.size ++ c, 0) := by unfold Go.Proofs.YtpbnfnaebdmagaaDoor.WordsA.textR; rw [if_neg (by omega)]
        rw [hP, ht, hn, if_neg c0, if_pos c1]
        show valR mk no (k + 1) (A ++ (((⟨#[2]⟩ : ByteArray) ++ (put 2 c.size ++ c)) ++ R)) A.size d = some (0, ⟨1, 0, c, []⟩, (A.size : Int) + (((⟨#[2]⟩ : ByteArray) ++ (put 2 c.size ++ c)).size : Int))
        have hk := one_put 2 (⟨#[2]⟩ : ByteArray) rfl (by omega) (by omega) A ((put 2 c.size ++ c) ++ R)
        have g := get_put (A ++ (⟨#[2]⟩ : ByteArray)) (c ++ R) 2 c.size (by omega) (by omega) (by omega)
        have e3 : (A ++ (⟨#[2]⟩ : ByteArray)).size = A.size + 1 := by rw [size_app]; rfl
        have e4 : (c.size : Int) % 256 ^ (2 : Int).toNat = (c.size : Int) := by
          have : (256 : Int) ^ (2 : Int).toNat = 65536 := rfl
          rw [this]; omega
        rw [e3, e4] at g
        have ez : ((⟨#[2]⟩ : ByteArray) ++ (put 2 c.size ++ c)).size = 3 + c.size := by
          rw [size_app, size_app, size_put]
          have : (max (0 : Int) (min 2 8)).toNat = 2 := rfl
          have : (⟨#[2]⟩ : ByteArray).size = 1 := rfl
          omega
        have es : A ++ (((⟨#[2]⟩ : ByteArray) ++ (put 2 c.size ++ c)) ++ R) = A ++ ((⟨#[2]⟩ : ByteArray) ++ ((put 2 c.size ++ c) ++ R)) := by simp only [ByteArray.append_assoc]
        have es2 : A ++ ((⟨#[2]⟩ : ByteArray) ++ ((put 2 c.size ++ c) ++ R)) = (A ++ (⟨#[2]⟩ : ByteArray)) ++ (put 2 c.size ++ (c ++ R)) := by simp only [ByteArray.append_assoc]
        have hz : ((A ++ (⟨#[2]⟩ : ByteArray)) ++ (put 2 c.size ++ (c ++ R))).size = A.size + 3 + c.size + R.size := by
          rw [size_app, e3, size_app, size_put, size_app]
          have : (max (0 : Int) (min 2 8)).toNat = 2 := rfl
          omega
        have hcut : ((A ++ (⟨#[2]⟩ : ByteArray)) ++ (put 2 c.size ++ (c ++ R))).extract (A.size + 3) (A.size + 3 + c.size) = c := by
          have := cut_mid ((A ++ (⟨#[2]⟩ : ByteArray)) ++ put 2 c.size) c R
          have e5 : ((A ++ (⟨#[2]⟩ : ByteArray)) ++ put 2 c.size).size = A.size + 3 := by
            rw [size_app, e3, size_put]
            have : (max (0 : Int) (min 2 8)).toNat = 2 := rfl
            omega
          rw [e5, ByteArray.append_assoc] at this
          exact this
        simp only [valR]
        rw [es, hk]
        dsimp only
        rw [if_pos rfl, if_neg (by decide), if_pos rfl, es2]
        unfold gtextR
        rw [show ((A.size : Int) + 1) = ((A.size + 1 : Nat) : Int) from rfl, g]
        dsimp only
        rw [if_pos rfl, hz]
        rw [if_neg (show ¬ (((A.size + 3 + c.size + R.size : Nat) : Int) - (((A.size + 1 : Nat) : Int) + 2) < (c.size : Int)) by omega)]
        dsimp only
        rw [if_pos rfl]
        have e6 : (((A.size + 1 : Nat) : Int) + 2).toNat = A.size + 3 := by omega
        have e7 : (((A.size + 1 : Nat) : Int) + 2 + (c.size : Int)).toNat = A.size + 3 + c.size := by omega
        rw [e6, e7, hcut, if_neg c2, ez]
        simp only [Option.some.injEq, Prod.mk.injEq, true_and]
        omega
    by_cases c2 : a = 2
    · by_cases c3 : (l.length : Int) > 256
      · have hP : putV ⟨a, b, c, l⟩ d = (⟨#[]⟩, 5) := by simp only [putV]; rw [if_neg c0, if_neg c1, if_pos c2, if_pos c3]
        rw [hP] at he; exact absurd he (by decide)
      by_cases c4 : d ≥ 8
      · have hP : putV ⟨a, b, c, l⟩ d = (⟨#[]⟩, 5) := by simp only [putV]; rw [if_neg c0, if_neg c1, if_pos c2, if_neg c3, if_pos c4]
        rw [hP] at he; exact absurd he (by decide)
      have hP : putV ⟨a, b, c, l⟩ d = (headB l.length (putVs l (d + 1)).1, (putVs l (d + 1)).2) := by simp only [putV]; rw [if_neg c0, if_neg c1, if_pos c2, if_neg c3, if_neg c4]
      rw [hP] at he ⊢
      rw [hn, if_neg c0, if_neg c1]
      have he2 : (putVs l (d + 1)).2 = 0 := he
      generalize hU : (putVs l (d + 1)).1 = U at *
      have hL : ∀ A2 R2 : ByteArray, listR (fun q => valR mk no k (A2 ++ (U ++ R2)) q (d + 1)) l.length A2.size = some (0, norms l, (A2.size : Int) + (U.size : Int)) := by
        intro A2 R2
        rw [← hU]
        exact list_back l (d + 1) k (by omega) (by omega) (by omega) hw.2 he2 _ A2 R2 rfl
      show valR mk no (k + 1) (A ++ (headB l.length U ++ R)) A.size d = some (0, ⟨2, 0, ⟨#[]⟩, norms l⟩, (A.size : Int) + ((headB l.length U).size : Int))
      have hk := one_put 3 (⟨#[3]⟩ : ByteArray) rfl (by omega) (by omega) A ((put 2 l.length ++ U) ++ R)
      have g := get_put (A ++ (⟨#[3]⟩ : ByteArray)) (U ++ R) 2 l.length (by omega) (by omega) (by omega)
      have e3 : (A ++ (⟨#[3]⟩ : ByteArray)).size = A.size + 1 := by rw [size_app]; rfl
      have e4 : (l.length : Int) % 256 ^ (2 : Int).toNat = (l.length : Int) := by
        have : (256 : Int) ^ (2 : Int).toNat = 65536 := rfl
        rw [this]; omega
      rw [e3, e4] at g
      have es : A ++ (headB l.length U ++ R) = A ++ ((⟨#[3]⟩ : ByteArray) ++ ((put 2 l.length ++ U) ++ R)) := by unfold headB; simp only [ByteArray.append_assoc]
      have es2 : A ++ ((⟨#[3]⟩ : ByteArray) ++ ((put 2 l.length ++ U) ++ R)) = (A ++ (⟨#[3]⟩ : ByteArray)) ++ (put 2 l.length ++ (U ++ R)) := by simp only [ByteArray.append_assoc]
      have es3 : (A ++ (⟨#[3]⟩ : ByteArray)) ++ (put 2 l.length ++ (U ++ R)) = ((A ++ (⟨#[3]⟩ : ByteArray)) ++ put 2 l.length) ++ (U ++ R) := by simp only [ByteArray.append_assoc]
      have hp2 : (put 2 l.length).size = 2 := by rw [size_put]; rfl
      have e5 : ((A ++ (⟨#[3]⟩ : ByteArray)) ++ put 2 l.length).size = A.size + 3 := by rw [size_app, e3, hp2]
      have ez : (headB l.length U).size = 3 + U.size := by
        unfold headB
        rw [size_app, size_app, hp2]
        have : (⟨#[3]⟩ : ByteArray).size = 1 := rfl
        omega
      have hl := hL ((A ++ (⟨#[3]⟩ : ByteArray)) ++ put 2 l.length) R
      rw [e5] at hl
      simp only [valR]
      rw [es, hk]
      dsimp only
      rw [if_pos rfl, if_neg (by decide), if_neg (by decide), if_pos rfl, if_neg c4, es2, show ((A.size : Int) + 1) = ((A.size + 1 : Nat) : Int) from rfl, g]
      dsimp only
      rw [if_pos rfl, if_neg c3, es3]
      rw [show ((A.size + 1 : Nat) : Int) + 2 = ((A.size + 3 : Nat) : Int) by omega, show (l.length : Int).toNat = l.length from rfl, hl, Option.bind_some]
      dsimp only
      rw [if_pos rfl, ez]
      simp only [Option.some.injEq, Prod.mk.injEq, true_and]
      omega
    · have hP : putV ⟨a, b, c, l⟩ d = (⟨#[]⟩, 2) := by simp only [putV]; rw [if_neg c0, if_neg c1, if_neg c2]
      rw [hP] at he; exact absurd he (by decide)
theorem list_back : ∀ (l : List V) (d : Int) (k : Nat), 0 ≤ d → d ≤ 8 → 8 - d < k → Wfs l → (putVs l d).2 = 0 → ∀ s A R : ByteArray, s = A ++ ((putVs l d).1 ++ R) → listR (fun q => valR mk no k s q d) l.length A.size = some (0, norms l, (A.size : Int) + ((putVs l d).1.size : Int))
  | [], d, k, _, _, _, _, _, s, A, R, hs => by
    simp only [listR, putVs, norms, List.length_nil]
    have hz : (⟨#[]⟩ : ByteArray).size = 0 := rfl
    rw [hz]; simp
  | x :: r, d, k, h0, h1, h2, hw, he, s, A, R, hs => by
    simp only [Wfs] at hw
    by_cases c : (putV x d).2 = 0
    · have hP : putVs (x :: r) d = ((putV x d).1 ++ (putVs r d).1, (putVs r d).2) := by simp only [putVs]; rw [if_pos c]
      rw [hP] at he hs ⊢
      have e1 : s = A ++ ((putV x d).1 ++ ((putVs r d).1 ++ R)) := by rw [hs]; simp only [ByteArray.append_assoc]
      have e2 : s = (A ++ (putV x d).1) ++ ((putVs r d).1 ++ R) := by rw [e1]; simp only [ByteArray.append_assoc]
      have hx := val_back x d k h0 h1 h2 hw.1 c A ((putVs r d).1 ++ R)
      rw [← e1] at hx
      have hr := list_back r d k h0 h1 h2 hw.2 he s (A ++ (putV x d).1) R e2
      rw [size_app] at hr
      simp only [List.length_cons, listR, norms]
      rw [hx, Option.bind_some]
      dsimp only
      rw [if_pos rfl, show ((A.size : Int) + ((putV x d).1.size : Int)) = ((A.size + (putV x d).1.size : Nat) : Int) by omega, hr, Option.bind_some, size_app]
      simp only [Option.some.injEq, Prod.mk.injEq, true_and]
      omega
    · have hP : putVs (x :: r) d = ((putV x d).1, (putV x d).2) := by simp only [putVs]; rw [if_neg c]
      rw [hP] at he; exact absurd he c
end
end Go.Proofs.YtpbnfnaebdmagaaDoor.Co
