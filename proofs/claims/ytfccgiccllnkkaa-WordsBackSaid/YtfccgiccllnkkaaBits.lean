/-
  What Bits of package words, and its reference, come to.
-/
import Derived.Test.YtfccgiccllnkkaaWords
namespace Go.Proofs.Ytfccgiccllnkkaa.Words
set_option linter.unusedVariables false
set_option linter.unusedSimpArgs false
open Go Go.RowKit Go.Proofs.Ytfccgiccllnkkaa.Plain Go.Proofs.Ytfccgiccllnkkaa.PX Go.Proofs.YtfccgiccllnkkaaW.PrintWords Go.Proofs.YtfccgiccllnkkaaW.PrintLast Go.Proofs.YtfccgiccllnkkaaW.PrintMore
/-- the bits of n from place f on (a place ahead of 0: noughts), c of them -/
def bitsN (n : Nat) (f : Int) (c : Nat) : Nat := (if f < 0 then (n <<< (-f).toNat) % 2 ^ 64 else n >>> f.toNat) % 2 ^ c
theorem bitsN_lt (n : Nat) (f : Int) (c : Nat) : bitsN n f c < 2 ^ c := Nat.mod_lt _ (Nat.two_pow_pos c)
theorem bitsN_bit (n : Nat) (f : Int) (c i : Nat) (hn : n < 2 ^ 64) (hc : c ≤ 64) (hi : i < c) :
    (bitsN n f c).testBit i = if 0 ≤ f + i ∧ f + i ≤ 63 then n.testBit (f + i).toNat else false := by
  unfold bitsN
  rw [Nat.testBit_mod_two_pow, decide_eq_true hi, Bool.true_and]
  by_cases hf : f < 0
  · rw [if_pos hf, Nat.testBit_mod_two_pow, Nat.testBit_shiftLeft]
    by_cases h : 0 ≤ f + i
    · rw [if_pos (by omega), decide_eq_true (by omega), decide_eq_true (by omega), show i - (-f).toNat = (f + i).toNat by omega]; simp
    · rw [if_neg (by omega), decide_eq_false (p := i ≥ (-f).toNat) (by omega)]; simp
  · rw [if_neg hf, Nat.testBit_shiftRight, show f.toNat + i = (f + i).toNat by omega]
    by_cases h : f + i ≤ 63
    · rw [if_pos (by omega)]
    · rw [if_neg (by omega)]
      exact Nat.testBit_lt_two_pow (Nat.lt_of_lt_of_le hn (Nat.pow_le_pow_right (by decide) (by omega)))
/-- what Bits answers -/
def bitsR (n f c : Int) : Int := if c < 1 ∨ f > 63 ∨ f < -63 then 0 else ((bitsN n.toNat f (min c 64).toNat : Nat) : Int)
theorem and_mask {x c : Int} (h0 : 0 ≤ x) (h1 : x < 18446744073709551616) (c0 : 1 ≤ c) (c1 : c ≤ 64) : bits .and .u64 x (18446744073709551615 / 2 ^ (64 - c).toNat) = x % 2 ^ c.toNat := by
  have e : (18446744073709551615 : Int) / 2 ^ (64 - c).toNat = 2 ^ c.toNat - 1 := by
    have : ∀ j : Nat, j ≤ 64 → (18446744073709551615 : Int) / 2 ^ (64 - j) = 2 ^ j - 1 := by decide
    have h := this c.toNat (by omega)
    rw [← h]; congr 2; omega
  rw [e]
  exact bits_mask .u64 64 (by decide) (fun n a b => by rw [wu64]; omega) c.toNat (by omega) x h0 (by omega)
theorem bits_some {n f c : Int} (k : Nat) (hn : 0 ≤ n ∧ n < 18446744073709551616) (hf : -9223372036854775808 ≤ f ∧ f ≤ 9223372036854775807) (hk : 1 ≤ k) : words_Bits.f k n f c = some (bitsR n f c) := by
  obtain ⟨k, rfl⟩ : ∃ m, k = m + 1 := ⟨k - 1, by omega⟩
  unfold words_Bits.f bitsR
  by_cases h1 : c < 1
  · rw [if_pos h1, if_pos (by omega)]; simp [words_Bits.j0]
  rw [if_neg h1]
  by_cases h2 : f > 63
  · rw [if_pos h2, if_pos (by omega)]; simp [words_Bits.j0]
  rw [if_neg h2]
  simp only [words_Bits.j0]
  by_cases h3 : f < -63
  · rw [decide_eq_true h3, if_pos rfl, if_pos (show c < 1 ∨ f > 63 ∨ f < -63 by omega)]
  rw [decide_eq_false h3, if_neg Bool.false_ne_true, if_neg (show ¬ (c < 1 ∨ f > 63 ∨ f < -63) by omega)]
  have e : mn c 64 = min c 64 := by unfold mn; omega
  rw [e, w64 (n := -f) (by omega) (by omega), w64 (n := 64 - min c 64) (by omega) (by omega)]
  obtain ⟨m, rfl⟩ := Int.eq_ofNat_of_zero_le hn.1
  rw [shr64 _ _ (by omega)]
  unfold bitsN
  by_cases h4 : f < 0
  · rw [if_pos h4, if_pos (by omega), if_pos (by omega), shl64 _ _ (by omega), if_pos h4, and_mask (by omega) (by omega) (by omega) (by omega), Nat.shiftLeft_eq]
    simp
  · rw [if_neg h4, if_pos (by omega), if_pos (by omega), shr64 _ _ (by omega), if_neg h4]
    have q0 : 0 ≤ (m : Int) / 2 ^ f.toNat := Int.ediv_nonneg (by omega) (Int.le_of_lt (pow_pos' _))
    have q1 : (m : Int) / 2 ^ f.toNat ≤ m := Int.ediv_le_self _ (by omega)
    rw [and_mask q0 (by omega) (by omega) (by omega), Nat.shiftRight_eq_div_pow]
    simp
theorem rbits_loop (n : Nat) (f : Int) (c : Nat) (hn : n < 2 ^ 64) (hf : -64 ≤ f ∧ f ≤ 64) (hc : c ≤ 64) (d : Nat) : ∀ (k : Nat), d ≤ c → d + 70 < k →
    precinctref01_Bits.l0 k n f ((bitsN n f c : Nat) / 2 ^ d : Int) ((d : Int) - 1) = some ((bitsN n f c : Nat) : Int) := by
  have hr := bitsN_lt n f c
  have hr2 : (2 : Nat) ^ c ≤ 2 ^ 64 := Nat.pow_le_pow_right (by decide) hc
  induction d with
  | zero =>
    intro k hd hk
    obtain ⟨k, rfl⟩ : ∃ m, k = m + 1 := ⟨k - 1, by omega⟩
    simp only [precinctref01_Bits.l0]; rw [if_neg (by omega)]
    simp
  | succ d ih =>
    intro k hd hk
    obtain ⟨k, rfl⟩ : ∃ m, k = m + 1 := ⟨k - 1, by omega⟩
    have hb : precinctref01_Bit.f k (n : Int) (f + d) = some (if (bitsN n f c).testBit d then 1 else 0) := by
      rw [bitsN_bit n f c d hn hc (by omega)]
      by_cases h : 0 ≤ f + d ∧ f + d ≤ 63
      · rw [if_pos h, bit_some k (by omega) (by omega) h.1 h.2 (by omega), testBit_int]
      · rw [if_neg h, bit_none k (by omega) (by omega)]; simp
    have st := half_step (bitsN n f c) d
    have q0 : 0 ≤ ((bitsN n f c : Nat) : Int) / 2 ^ (d + 1) := Int.ediv_nonneg (by omega) (Int.le_of_lt (pow_pos' _))
    have q1 : 2 * (((bitsN n f c : Nat) : Int) / 2 ^ (d + 1)) ≤ (bitsN n f c : Nat) := by
      rw [Int.pow_succ, ← Int.ediv_ediv_of_nonneg (Int.le_of_lt (pow_pos' d))]
      have : ((bitsN n f c : Nat) : Int) / 2 ^ d ≤ (bitsN n f c : Nat) := Int.ediv_le_self _ (by omega)
      omega
    have b01 : (0 : Int) ≤ (if (bitsN n f c).testBit d then 1 else 0) ∧ (if (bitsN n f c).testBit d then (1 : Int) else 0) ≤ 1 := by split <;> omega
    have q2 : 2 * (((bitsN n f c : Nat) : Int) / 2 ^ (d + 1)) + (if (bitsN n f c).testBit d then 1 else 0) ≤ (bitsN n f c : Nat) := by
      rw [← st]; exact Int.ediv_le_self _ (by omega)
    simp only [precinctref01_Bits.l0]
    rw [if_pos (by omega), show ((d + 1 : Nat) : Int) - 1 = (d : Int) by omega, w64 (n := f + d) (by omega) (by omega), hb]
    simp only [Option.bind_some]
    rw [wu64, wu64, Int.emod_eq_of_lt (b := 18446744073709551616) (by omega) (by omega), Int.emod_eq_of_lt (b := 18446744073709551616) (by omega) (by omega), ← st, w64 (by omega) (by omega)]
    exact ih k (by omega) (by omega)
theorem bitsN_far (n : Nat) (f : Int) (c : Nat) (hn : n < 2 ^ 64) (hc : c ≤ 64) (h : f > 63 ∨ f < -63) : bitsN n f c = 0 := by
  apply Nat.eq_of_testBit_eq
  intro i
  by_cases hi : i < c
  · rw [bitsN_bit n f c i hn hc hi, if_neg (by omega)]; simp
  · rw [Nat.testBit_lt_two_pow (Nat.lt_of_lt_of_le (bitsN_lt n f c) (Nat.pow_le_pow_right (by decide) (by omega)))]; simp
theorem rbits_some {n f c : Int} (k : Nat) (hn : 0 ≤ n ∧ n < 18446744073709551616) (hk : 200 ≤ k) : precinctref01_Bits.f k n f c = some (bitsR n f c) := by
  obtain ⟨m, rfl⟩ := Int.eq_ofNat_of_zero_le hn.1
  have hm : m < 2 ^ 64 := by omega
  have key : ∀ (k : Nat) (g e : Int), 197 ≤ k → -64 ≤ g → g ≤ 64 → 1 ≤ e → e ≤ 64 → precinctref01_Bits.l0 k m g 0 (wrap64 (e - 1)) = some ((bitsN m g e.toNat : Nat) : Int) := by
    intro k g e hk g0 g1 e0 e1
    have l := rbits_loop m g e.toNat hm ⟨g0, g1⟩ (by omega) e.toNat k (by omega) (by omega)
    have z : ((bitsN m g e.toNat : Nat) : Int) / 2 ^ e.toNat = 0 := Int.ediv_eq_zero_of_lt (by omega) (by exact_mod_cast bitsN_lt m g e.toNat)
    rw [z] at l
    rw [w64 (by omega) (by omega), show e - 1 = ((e.toNat : Nat) : Int) - 1 by omega]
    exact l
  have far : ∀ g e : Int, 1 ≤ e → e ≤ 64 → precinctref01_Bits.j0 k m g e = some (if g > 63 ∨ g < -63 then 0 else ((bitsN m g e.toNat : Nat) : Int)) := by
    intro g e e0 e1
    obtain ⟨k, rfl⟩ : ∃ m, k = m + 3 := ⟨k - 3, by omega⟩
    simp only [precinctref01_Bits.j0]
    by_cases a : g > 64
    · rw [if_pos a, if_pos (by omega)]; simp only [precinctref01_Bits.j1]
      rw [if_neg (by omega)]; simp only [precinctref01_Bits.j2]
      rw [key k 64 e (by omega) (by omega) (by omega) e0 e1, bitsN_far m 64 e.toNat hm (by omega) (by omega)]; rfl
    · rw [if_neg a]; simp only [precinctref01_Bits.j1]
      by_cases b : g < -64
      · rw [if_pos b, if_pos (by omega)]; simp only [precinctref01_Bits.j2]
        rw [key k (-64) e (by omega) (by omega) (by omega) e0 e1, bitsN_far m (-64) e.toNat hm (by omega) (by omega)]; rfl
      · rw [if_neg b]; simp only [precinctref01_Bits.j2]
        rw [key k g e (by omega) (by omega) (by omega) e0 e1]
        by_cases h : g > 63 ∨ g < -63
        · rw [if_pos h, bitsN_far m g e.toNat hm (by omega) h]; rfl
        · rw [if_neg h]
  unfold precinctref01_Bits.f bitsR
  by_cases h1 : c < 1
  · rw [if_pos h1, if_pos (by omega)]
  rw [if_neg h1]
  have sp : (if c < 1 ∨ f > 63 ∨ f < -63 then (0 : Int) else ((bitsN (m : Int).toNat f (min c 64).toNat : Nat) : Int)) = (if f > 63 ∨ f < -63 then 0 else ((bitsN m f (min c 64).toNat : Nat) : Int)) := by
    by_cases h : f > 63 ∨ f < -63
    · rw [if_pos (by omega), if_pos h]
    · rw [if_neg (by omega), if_neg h]; rfl
  rw [sp]
  by_cases h2 : c > 64
  · rw [if_pos h2, far f 64 (by omega) (by omega), show min c 64 = 64 by omega]
  · rw [if_neg h2, far f c (by omega) (by omega), show min c 64 = c by omega]
end Go.Proofs.Ytfccgiccllnkkaa.Words
