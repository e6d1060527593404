/-
  What Sum of package frame, and its reference, come to: the check sum, byte by byte.
-/
import Derived.Test.YtfccgiccllnkkaaWords
namespace Go.Proofs.Ytfccgiccllnkkaa.Words
set_option linter.unusedVariables false
set_option linter.unusedSimpArgs false
open Go Go.RowKit Go.Proofs.Ytfccgiccllnkkaa.Plain Go.Proofs.Ytfccgiccllnkkaa.PY Go.Proofs.YtfccgiccllnkkaaW.PrintWords Go.Proofs.YtfccgiccllnkkaaW.PrintLast Go.Proofs.YtfccgiccllnkkaaW.PrintMore
/-- one bit of the long division -/
def stepN (c : Nat) : Nat := c / 2 ^^^ (if c % 2 = 1 then 2197175160 else 0)
def stepsN : Nat → Nat → Nat
  | 0, c => c
  | d + 1, c => stepsN d (stepN c)
/-- the check sum's word behind i bytes -/
def sumN (s : ByteArray) : Nat → Nat
  | 0 => 4294967295
  | i + 1 => stepsN 8 (sumN s i ^^^ (bt s i).toNat)
/-- what Sum answers -/
def sumR (s : ByteArray) : Int := 4294967295 - (sumN s s.size : Nat)
theorem stepN_lt {c : Nat} (h : c < 4294967296) : stepN c < 4294967296 := by
  unfold stepN
  refine Nat.xor_lt_two_pow (n := 32) (by omega) ?_
  split <;> decide
theorem stepsN_lt (d : Nat) : ∀ {c : Nat}, c < 4294967296 → stepsN d c < 4294967296 := by
  induction d with
  | zero => intro c h; exact h
  | succ d ih => intro c h; exact ih (stepN_lt h)
theorem sumN_lt (s : ByteArray) (i : Nat) : sumN s i < 4294967296 := by
  induction i with
  | zero => show 4294967295 < 4294967296; decide
  | succ i ih =>
    have hb := bt_range s i
    exact stepsN_lt 8 (Nat.xor_lt_two_pow (n := 32) (by omega) (by omega))
theorem sumR_range (s : ByteArray) : 0 ≤ sumR s ∧ sumR s < 4294967296 := by
  have := sumN_lt s s.size
  unfold sumR; omega
theorem step_u32 {c : Nat} (h : c < 4294967296) : bits .xor .u32 ((c : Int) / 2) (bits .and .u32 2197175160 ((-(bits .and .u32 (c : Int) 1)) % 4294967296)) = ((stepN c : Nat) : Int) := by
  have e1 : bits .and .u32 (c : Int) 1 = ((c % 2 : Nat) : Int) := by
    rw [and_u32 _ _ (by omega) (by omega) (by omega) (by omega)]
    rw [show (1 : Int).toNat = 1 by rfl, Nat.and_one_is_mod]; rfl
  rw [e1]
  unfold stepN
  by_cases hc : c % 2 = 1
  · rw [hc, if_pos rfl]
    have e2 : bits .and .u32 2197175160 ((-((1 : Nat) : Int)) % 4294967296) = 2197175160 := by decide
    rw [e2, xor_u32 _ _ (by omega) (by omega) (by omega) (by omega)]
    congr 1
  · rw [show c % 2 = 0 by omega, if_neg (by decide)]
    have e2 : bits .and .u32 2197175160 ((-((0 : Nat) : Int)) % 4294967296) = 0 := by decide
    rw [e2, xor_u32 _ _ (by omega) (by omega) (by omega) (by omega)]
    congr 1
theorem sum_inner (s : ByteArray) (n i : Int) (h0 : 0 ≤ i) (h1 : i < 140737488351232 * 8) (d : Nat) : ∀ (k : Nat) (c : Nat), c < 4294967296 → d ≤ 8 →
    frame_Sum.l1 (k + d + 1) s c n i (8 - (d : Int)) = frame_Sum.l0 k s ((stepsN d c : Nat) : Int) n (i + 1) := by
  induction d with
  | zero =>
    intro k c hc hd
    simp only [frame_Sum.l1]
    rw [if_neg (by omega), w64 (by omega) (by omega)]; rfl
  | succ d ih =>
    intro k c hc hd
    rw [show k + (d + 1) + 1 = (k + d + 1) + 1 by omega]
    simp only [frame_Sum.l1]
    rw [if_pos (by omega), step_u32 hc, w64 (by omega) (by omega), show 8 - ((d + 1 : Nat) : Int) + 1 = 8 - (d : Int) by omega]
    exact ih k _ (stepN_lt hc) (by omega)
theorem xor_ones32 {c : Nat} (h : c < 4294967296) : bits .xor .u32 (-1) (c : Int) = 4294967295 - (c : Int) := by
  show IntKind.u32.wrap ((BitVec.ofInt 32 (-1) ^^^ BitVec.ofInt 32 (c : Int)).toNat : Int) = _
  have e : (BitVec.ofInt 32 (-1)).toNat = 2 ^ 32 - 1 := by decide
  rw [BitVec.toNat_xor, bv32 (c : Int) (by omega) (by omega), e, Nat.xor_comm, nat_xor_ones _ 32 (by omega), wu32]
  omega
theorem sum_outer (s : ByteArray) (hs : s.size ≤ 140737488351232 * 4) (d : Nat) : ∀ (k i : Nat), i + d = s.size →
    frame_Sum.l0 (k + 10 * d + 1) s ((sumN s i : Nat) : Int) (s.size : Int) i = some (sumR s) := by
  induction d with
  | zero =>
    intro k i hi
    simp only [frame_Sum.l0]
    rw [if_neg (by omega), xor_ones32 (sumN_lt s i), show i = s.size by omega]; rfl
  | succ d ih =>
    intro k i hi
    have hb := bt_range s i
    rw [show k + 10 * (d + 1) + 1 = (k + 10 * d + 1 + 8 + 1) + 1 by omega]
    simp only [frame_Sum.l0]
    have hl := sumN_lt s i
    rw [if_pos (by omega), if_pos (by omega), if_pos (by omega), Int.emod_eq_of_lt hb.1 (by omega), xor_u32 _ _ (by omega) (by omega) hb.1 (by omega)]
    have e := sum_inner s s.size i (by omega) (by omega) 8 (k + 10 * d + 1) ((sumN s i : Nat) ^^^ (bt s i).toNat) (Nat.xor_lt_two_pow (n := 32) (by omega) (by omega)) (by omega)
    rw [show (8 : Int) - ((8 : Nat) : Int) = 0 by omega] at e
    rw [Int.toNat_natCast, e]
    have e2 := ih k (i + 1) (by omega)
    simpa [sumN] using e2
theorem sum_some {s : ByteArray} (k : Nat) (hs : s.size ≤ 140737488351232 * 4) (hk : 10 * s.size + 1 ≤ k) : frame_Sum.f k s = some (sumR s) := by
  refine at_rounds (frame_Sum.mono s) hk ?_
  unfold frame_Sum.f
  have := sum_outer s hs s.size 0 0 (by omega)
  simpa [sumN] using this
theorem low_xor (c b : Nat) : (c ^^^ b) % 2 = 1 ↔ c % 2 ≠ b % 2 := by
  have h := Nat.testBit_xor c b 0
  rw [Nat.testBit_zero, Nat.testBit_zero, Nat.testBit_zero] at h
  rcases Nat.mod_two_eq_zero_or_one c with hc | hc <;> rcases Nat.mod_two_eq_zero_or_one b with hb | hb <;> simp [hc, hb] at h ⊢ <;> omega
theorem half_xor (c b : Nat) : (c ^^^ b) / 2 = c / 2 ^^^ b / 2 := by
  have := Nat.shiftRight_xor_distrib (a := c) (b := b) (i := 1)
  simpa [Nat.shiftRight_eq_div_pow] using this
end Go.Proofs.Ytfccgiccllnkkaa.Words
