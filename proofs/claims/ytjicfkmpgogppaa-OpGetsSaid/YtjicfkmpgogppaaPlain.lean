/-
  Plain facts on numbers, bits and bytes: no program in sight.
-/
import Derived.Laws.BitsLemmas
import Derived.RowKit
import GoSem.Claim
import Derived.Laws.BytesArg
import Derived.Test.YtjicfkmpgogppaaWd
namespace Go.Proofs.Ytjicfkmpgogppaa.Plain
set_option linter.unusedVariables false
set_option linter.unusedSimpArgs false
open Go Go.RowKit Go.Proofs.YtjicfkmpgogppaaW.PrintWords Go.Proofs.YtjicfkmpgogppaaW.PrintLast Go.Proofs.YtjicfkmpgogppaaW.PrintMore


theorem wu64 (n : Int) : IntKind.u64.wrap n = n % 18446744073709551616 := by simp [IntKind.wrap, IntKind.bits, IntKind.signed]
theorem wi64 (n : Int) : IntKind.i64.wrap n = wrap64 n := by unfold wrap64; exact IntKind.wrap_i64 n
theorem bv64 (x : Int) (h0 : 0 ≤ x) (h1 : x < 18446744073709551616) : (BitVec.ofInt 64 x).toNat = x.toNat := by
  rw [BitVec.toNat_ofInt]; omega
theorem xor_u64 (x y : Int) (h0 : 0 ≤ x) (h1 : x < 18446744073709551616) (k0 : 0 ≤ y) (k1 : y < 18446744073709551616) : bits .xor .u64 x y = ((x.toNat ^^^ y.toNat : Nat) : Int) := by
  show IntKind.u64.wrap ((BitVec.ofInt 64 x ^^^ BitVec.ofInt 64 y).toNat : Int) = _
  rw [BitVec.toNat_xor, bv64 x h0 h1, bv64 y k0 k1]
  have := Nat.xor_lt_two_pow (x := x.toNat) (y := y.toNat) (n := 64) (by omega) (by omega)
  rw [wu64]; omega
theorem or_u64 (x y : Int) (h0 : 0 ≤ x) (h1 : x < 18446744073709551616) (k0 : 0 ≤ y) (k1 : y < 18446744073709551616) : bits .or .u64 x y = ((x.toNat ||| y.toNat : Nat) : Int) := by
  show IntKind.u64.wrap ((BitVec.ofInt 64 x ||| BitVec.ofInt 64 y).toNat : Int) = _
  rw [BitVec.toNat_or, bv64 x h0 h1, bv64 y k0 k1]
  have := Nat.or_lt_two_pow (x := x.toNat) (y := y.toNat) (n := 64) (by omega) (by omega)
  rw [wu64]; omega
theorem and_u64 (x y : Int) (h0 : 0 ≤ x) (h1 : x < 18446744073709551616) (k0 : 0 ≤ y) (k1 : y < 18446744073709551616) : bits .and .u64 x y = ((x.toNat &&& y.toNat : Nat) : Int) := by
  show IntKind.u64.wrap ((BitVec.ofInt 64 x &&& BitVec.ofInt 64 y).toNat : Int) = _
  rw [BitVec.toNat_and, bv64 x h0 h1, bv64 y k0 k1]
  have := Nat.and_lt_two_pow (y := y.toNat) x.toNat (n := 64) (by omega)
  rw [wu64]; omega
theorem nat_xor_ones (n k : Nat) (h : n < 2 ^ k) : n ^^^ (2 ^ k - 1) = 2 ^ k - 1 - n := by
  have e : (BitVec.ofNat k n ^^^ BitVec.allOnes k).toNat = 2 ^ k - 1 - n := by
    rw [BitVec.xor_allOnes, BitVec.toNat_not, BitVec.toNat_ofNat, Nat.mod_eq_of_lt h]
  rw [BitVec.toNat_xor, BitVec.toNat_ofNat, Nat.mod_eq_of_lt h, BitVec.toNat_allOnes] at e
  exact e
theorem xor64_zero (x : Int) (h0 : 0 ≤ x) (h1 : x < 18446744073709551616) : bits .xor .u64 x 0 = x := by
  rw [xor_u64 x 0 h0 h1 (by omega) (by omega)]; simp; omega
theorem xor64_ones (x : Int) (h0 : 0 ≤ x) (h1 : x < 18446744073709551616) : bits .xor .u64 x 18446744073709551615 = 18446744073709551615 - x := by
  rw [xor_u64 x _ h0 h1 (by omega) (by omega)]
  have := nat_xor_ones x.toNat 64 (by omega)
  have e : (18446744073709551615 : Int).toNat = 2 ^ 64 - 1 := rfl
  rw [e, this]; omega
theorem xori_zero (x : Int) (h0 : 0 ≤ x) (h1 : x < 9223372036854775808) : bits .xor .i64 x 0 = x := by
  show IntKind.i64.wrap ((BitVec.ofInt 64 x ^^^ BitVec.ofInt 64 0).toNat : Int) = _
  rw [BitVec.toNat_xor, bv64 x h0 (by omega), bv64 0 (by omega) (by omega), wi64]
  simp [wrap64]; omega
theorem xori_neg (x : Int) (h0 : 0 ≤ x) (h1 : x < 9223372036854775808) : bits .xor .i64 x (-1) = -x - 1 := by
  show IntKind.i64.wrap ((BitVec.ofInt 64 x ^^^ BitVec.ofInt 64 (-1)).toNat : Int) = _
  have e : (BitVec.ofInt 64 (-1)).toNat = 2 ^ 64 - 1 := by decide
  rw [BitVec.toNat_xor, bv64 x h0 (by omega), e, nat_xor_ones x.toNat 64 (by omega), wi64]
  unfold wrap64; omega
theorem and_one (x : Int) (h0 : 0 ≤ x) (h1 : x < 18446744073709551616) : bits .and .u64 x 1 = x % 2 := by
  rw [and_u64 x 1 h0 h1 (by omega) (by omega)]
  have e : (1 : Int).toNat = 1 := rfl
  rw [e, Nat.and_one_is_mod]; omega

theorem w64 {n : Int} (h : -9223372036854775808 ≤ n) (h' : n ≤ 9223372036854775807) : wrap64 n = n := by unfold wrap64; omega
theorem td2 {n : Int} (h : 0 ≤ n) : Int.tdiv n 2 = n / 2 := Int.tdiv_eq_ediv_of_nonneg h
theorem tm2 {n : Int} (h : 0 ≤ n) : Int.tmod n 2 = n % 2 := Int.tmod_eq_emod_of_nonneg h

/-! #### bytes of numbers -/
/-- the lowest w bytes of n, the highest first -/
def puts : Nat → Int → List Int
  | 0, _ => []
  | w + 1, n => puts w (n / 256) ++ [n % 256]
theorem puts_length (w : Nat) : ∀ n, (puts w n).length = w := by
  induction w with
  | zero => intro n; rfl
  | succ w ih => intro n; simp [puts, ih]
theorem pow8 (d : Nat) : (2 : Int) ^ (8 * (d : Int)).toNat = 256 ^ d := by
  rw [show (8 * (d : Int)).toNat = 8 * d by omega, Int.pow_mul]; rfl
theorem pow256 (i : Nat) (h : i ≤ 7) : (256 : Int) ^ i ≤ 256 ^ 7 := by
  have : i = 0 ∨ i = 1 ∨ i = 2 ∨ i = 3 ∨ i = 4 ∨ i = 5 ∨ i = 6 ∨ i = 7 := by omega
  rcases this with rfl | rfl | rfl | rfl | rfl | rfl | rfl | rfl <;> decide
theorem puts_front (w : Nat) : ∀ n : Int, puts (w + 1) n = (n / 256 ^ w % 256) :: puts w n := by
  induction w with
  | zero => intro n; simp [puts]
  | succ w ih =>
    intro n
    have e : puts (w + 1 + 1) n = puts (w + 1) (n / 256) ++ [n % 256] := rfl
    rw [e, ih, Int.ediv_ediv_of_nonneg (by decide), ← Int.pow_succ']
    rfl
theorem size_strOfNums (xs : List Int) : (strOfNums xs).size = xs.length := by
  show (Array.size _) = _
  simp
/-- what Put answers -/
def put (w n : Int) : ByteArray := strOfNums (puts (max 0 (min w 8)).toNat n)
theorem size_put (w n : Int) : (put w n).size = (max 0 (min w 8)).toNat := by unfold put; rw [size_strOfNums, puts_length]

/-- the number that stands in i bytes at a -/
def gets (s : ByteArray) (a : Int) : Nat → Int
  | 0 => 0
  | i + 1 => gets s a i * 256 + bt s (a + i)
theorem gets_lt (s : ByteArray) (a : Int) (i : Nat) : 0 ≤ gets s a i ∧ gets s a i < 256 ^ i := by
  induction i with
  | zero => simp [gets]
  | succ i ih =>
    have hb := bt_range s (a + i)
    simp only [gets, Int.pow_succ]
    omega
/-- what Get answers -/
def getR (s : ByteArray) (a w : Int) : Int × Int × Int :=
  if w < 1 ∨ w > 8 ∨ a < 0 ∨ a > s.size then (0, 0, 2) else if (s.size : Int) - a < w then (0, 0, 3) else (gets s a w.toNat, a + w, 0)

/-! #### numbers narrowed -/
/-! #### words turned -/
end Go.Proofs.Ytjicfkmpgogppaa.Plain
