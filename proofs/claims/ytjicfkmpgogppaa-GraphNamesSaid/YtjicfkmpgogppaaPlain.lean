/-
  Plain facts on numbers, bits and bytes: no program in sight.
-/
import Derived.Laws.BitsLemmas
import Derived.RowKit
import GoSem.Claim
import Derived.Laws.BytesArg
import Derived.Test.YtjicfkmpgogppaaWd
namespace Go.Proofs.Ytjicfkmpgogppaa.Plain
set_option linter.unusedVariables false
set_option linter.unusedSimpArgs false
open Go Go.RowKit Go.Proofs.YtjicfkmpgogppaaW.PrintWords Go.Proofs.YtjicfkmpgogppaaW.PrintLast Go.Proofs.YtjicfkmpgogppaaW.PrintMore


theorem wu64 (n : Int) : IntKind.u64.wrap n = n % 18446744073709551616 := by simp [IntKind.wrap, IntKind.bits, IntKind.signed]
theorem wi64 (n : Int) : IntKind.i64.wrap n = wrap64 n := by unfold wrap64; exact IntKind.wrap_i64 n
theorem wf_u64 {a : Int} (h : (Lit.int .u64 a).wf = true) : 0 ≤ a ∧ a < 18446744073709551616 := by
  simp [Lit.wf, IntKind.bits, IntKind.min, IntKind.max, IntKind.signed] at h
  omega
theorem wf_u32 {a : Int} (h : (Lit.int .u32 a).wf = true) : 0 ≤ a ∧ a < 4294967296 := by
  simp [Lit.wf, IntKind.bits, IntKind.min, IntKind.max, IntKind.signed] at h
  omega
theorem wf_i64 {a : Int} (h : (Lit.int .i64 a).wf = true) : -9223372036854775808 ≤ a ∧ a ≤ 9223372036854775807 := by
  simp [Lit.wf, IntKind.bits, IntKind.min, IntKind.max, IntKind.signed] at h
  omega

theorem bv64 (x : Int) (h0 : 0 ≤ x) (h1 : x < 18446744073709551616) : (BitVec.ofInt 64 x).toNat = x.toNat := by
  rw [BitVec.toNat_ofInt]; omega
theorem xor_u64 (x y : Int) (h0 : 0 ≤ x) (h1 : x < 18446744073709551616) (k0 : 0 ≤ y) (k1 : y < 18446744073709551616) : bits .xor .u64 x y = ((x.toNat ^^^ y.toNat : Nat) : Int) := by
  show IntKind.u64.wrap ((BitVec.ofInt 64 x ^^^ BitVec.ofInt 64 y).toNat : Int) = _
  rw [BitVec.toNat_xor, bv64 x h0 h1, bv64 y k0 k1]
  have := Nat.xor_lt_two_pow (x := x.toNat) (y := y.toNat) (n := 64) (by omega) (by omega)
  rw [wu64]; omega
theorem or_u64 (x y : Int) (h0 : 0 ≤ x) (h1 : x < 18446744073709551616) (k0 : 0 ≤ y) (k1 : y < 18446744073709551616) : bits .or .u64 x y = ((x.toNat ||| y.toNat : Nat) : Int) := by
  show IntKind.u64.wrap ((BitVec.ofInt 64 x ||| BitVec.ofInt 64 y).toNat : Int) = _
  rw [BitVec.toNat_or, bv64 x h0 h1, bv64 y k0 k1]
  have := Nat.or_lt_two_pow (x := x.toNat) (y := y.toNat) (n := 64) (by omega) (by omega)
  rw [wu64]; omega
theorem and_u64 (x y : Int) (h0 : 0 ≤ x) (h1 : x < 18446744073709551616) (k0 : 0 ≤ y) (k1 : y < 18446744073709551616) : bits .and .u64 x y = ((x.toNat &&& y.toNat : Nat) : Int) := by
  show IntKind.u64.wrap ((BitVec.ofInt 64 x &&& BitVec.ofInt 64 y).toNat : Int) = _
  rw [BitVec.toNat_and, bv64 x h0 h1, bv64 y k0 k1]
  have := Nat.and_lt_two_pow (y := y.toNat) x.toNat (n := 64) (by omega)
  rw [wu64]; omega
theorem bv32 (x : Int) (h0 : 0 ≤ x) (h1 : x < 4294967296) : (BitVec.ofInt 32 x).toNat = x.toNat := by
  rw [BitVec.toNat_ofInt]; omega
theorem wu32 (n : Int) : IntKind.u32.wrap n = n % 4294967296 := IntKind.wrap_u32 n
theorem xor_u32 (x y : Int) (h0 : 0 ≤ x) (h1 : x < 4294967296) (k0 : 0 ≤ y) (k1 : y < 4294967296) : bits .xor .u32 x y = ((x.toNat ^^^ y.toNat : Nat) : Int) := by
  show IntKind.u32.wrap ((BitVec.ofInt 32 x ^^^ BitVec.ofInt 32 y).toNat : Int) = _
  rw [BitVec.toNat_xor, bv32 x h0 h1, bv32 y k0 k1]
  have := Nat.xor_lt_two_pow (x := x.toNat) (y := y.toNat) (n := 32) (by omega) (by omega)
  rw [wu32]; omega
theorem or_u32 (x y : Int) (h0 : 0 ≤ x) (h1 : x < 4294967296) (k0 : 0 ≤ y) (k1 : y < 4294967296) : bits .or .u32 x y = ((x.toNat ||| y.toNat : Nat) : Int) := by
  show IntKind.u32.wrap ((BitVec.ofInt 32 x ||| BitVec.ofInt 32 y).toNat : Int) = _
  rw [BitVec.toNat_or, bv32 x h0 h1, bv32 y k0 k1]
  have := Nat.or_lt_two_pow (x := x.toNat) (y := y.toNat) (n := 32) (by omega) (by omega)
  rw [wu32]; omega
theorem and_u32 (x y : Int) (h0 : 0 ≤ x) (h1 : x < 4294967296) (k0 : 0 ≤ y) (k1 : y < 4294967296) : bits .and .u32 x y = ((x.toNat &&& y.toNat : Nat) : Int) := by
  show IntKind.u32.wrap ((BitVec.ofInt 32 x &&& BitVec.ofInt 32 y).toNat : Int) = _
  rw [BitVec.toNat_and, bv32 x h0 h1, bv32 y k0 k1]
  have := Nat.and_lt_two_pow (y := y.toNat) x.toNat (n := 32) (by omega)
  rw [wu32]; omega
theorem nat_xor_ones (n k : Nat) (h : n < 2 ^ k) : n ^^^ (2 ^ k - 1) = 2 ^ k - 1 - n := by
  have e : (BitVec.ofNat k n ^^^ BitVec.allOnes k).toNat = 2 ^ k - 1 - n := by
    rw [BitVec.xor_allOnes, BitVec.toNat_not, BitVec.toNat_ofNat, Nat.mod_eq_of_lt h]
  rw [BitVec.toNat_xor, BitVec.toNat_ofNat, Nat.mod_eq_of_lt h, BitVec.toNat_allOnes] at e
  exact e
theorem xor64_zero (x : Int) (h0 : 0 ≤ x) (h1 : x < 18446744073709551616) : bits .xor .u64 x 0 = x := by
  rw [xor_u64 x 0 h0 h1 (by omega) (by omega)]; simp; omega
theorem xor64_ones (x : Int) (h0 : 0 ≤ x) (h1 : x < 18446744073709551616) : bits .xor .u64 x 18446744073709551615 = 18446744073709551615 - x := by
  rw [xor_u64 x _ h0 h1 (by omega) (by omega)]
  have := nat_xor_ones x.toNat 64 (by omega)
  have e : (18446744073709551615 : Int).toNat = 2 ^ 64 - 1 := rfl
  rw [e, this]; omega
theorem xori_zero (x : Int) (h0 : 0 ≤ x) (h1 : x < 9223372036854775808) : bits .xor .i64 x 0 = x := by
  show IntKind.i64.wrap ((BitVec.ofInt 64 x ^^^ BitVec.ofInt 64 0).toNat : Int) = _
  rw [BitVec.toNat_xor, bv64 x h0 (by omega), bv64 0 (by omega) (by omega), wi64]
  simp [wrap64]; omega
theorem xori_neg (x : Int) (h0 : 0 ≤ x) (h1 : x < 9223372036854775808) : bits .xor .i64 x (-1) = -x - 1 := by
  show IntKind.i64.wrap ((BitVec.ofInt 64 x ^^^ BitVec.ofInt 64 (-1)).toNat : Int) = _
  have e : (BitVec.ofInt 64 (-1)).toNat = 2 ^ 64 - 1 := by decide
  rw [BitVec.toNat_xor, bv64 x h0 (by omega), e, nat_xor_ones x.toNat 64 (by omega), wi64]
  unfold wrap64; omega
theorem and_one (x : Int) (h0 : 0 ≤ x) (h1 : x < 18446744073709551616) : bits .and .u64 x 1 = x % 2 := by
  rw [and_u64 x 1 h0 h1 (by omega) (by omega)]
  have e : (1 : Int).toNat = 1 := rfl
  rw [e, Nat.and_one_is_mod]; omega

theorem w64 {n : Int} (h : -9223372036854775808 ≤ n) (h' : n ≤ 9223372036854775807) : wrap64 n = n := by unfold wrap64; omega
theorem td2 {n : Int} (h : 0 ≤ n) : Int.tdiv n 2 = n / 2 := Int.tdiv_eq_ediv_of_nonneg h
theorem tm2 {n : Int} (h : 0 ≤ n) : Int.tmod n 2 = n % 2 := Int.tmod_eq_emod_of_nonneg h

/-! #### bytes of numbers -/
/-- the lowest w bytes of n, the highest first -/
def puts : Nat → Int → List Int
  | 0, _ => []
  | w + 1, n => puts w (n / 256) ++ [n % 256]
theorem puts_length (w : Nat) : ∀ n, (puts w n).length = w := by
  induction w with
  | zero => intro n; rfl
  | succ w ih => intro n; simp [puts, ih]
theorem pow8 (d : Nat) : (2 : Int) ^ (8 * (d : Int)).toNat = 256 ^ d := by
  rw [show (8 * (d : Int)).toNat = 8 * d by omega, Int.pow_mul]; rfl
theorem pow256 (i : Nat) (h : i ≤ 7) : (256 : Int) ^ i ≤ 256 ^ 7 := by
  have : i = 0 ∨ i = 1 ∨ i = 2 ∨ i = 3 ∨ i = 4 ∨ i = 5 ∨ i = 6 ∨ i = 7 := by omega
  rcases this with rfl | rfl | rfl | rfl | rfl | rfl | rfl | rfl <;> decide
theorem puts_front (w : Nat) : ∀ n : Int, puts (w + 1) n = (n / 256 ^ w % 256) :: puts w n := by
  induction w with
  | zero => intro n; simp [puts]
  | succ w ih =>
    intro n
    have e : puts (w + 1 + 1) n = puts (w + 1) (n / 256) ++ [n % 256] := rfl
    rw [e, ih, Int.ediv_ediv_of_nonneg (by decide), ← Int.pow_succ']
    rfl
theorem strOfNums_nil : strOfNums [] = ByteArray.empty := rfl
theorem strOfNums_append (xs ys : List Int) : strOfNums (xs ++ ys) = strOfNums xs ++ strOfNums ys := by
  apply ByteArray.ext
  simp [strOfNums]
theorem size_strOfNums (xs : List Int) : (strOfNums xs).size = xs.length := by
  show (Array.size _) = _
  simp
/-- what Put answers -/
def put (w n : Int) : ByteArray := strOfNums (puts (max 0 (min w 8)).toNat n)
theorem size_put (w n : Int) : (put w n).size = (max 0 (min w 8)).toNat := by unfold put; rw [size_strOfNums, puts_length]

/-- the number that stands in i bytes at a -/
def gets (s : ByteArray) (a : Int) : Nat → Int
  | 0 => 0
  | i + 1 => gets s a i * 256 + bt s (a + i)
theorem gets_lt (s : ByteArray) (a : Int) (i : Nat) : 0 ≤ gets s a i ∧ gets s a i < 256 ^ i := by
  induction i with
  | zero => simp [gets]
  | succ i ih =>
    have hb := bt_range s (a + i)
    simp only [gets, Int.pow_succ]
    omega
/-- what Get answers -/
def getR (s : ByteArray) (a w : Int) : Int × Int × Int :=
  if w < 1 ∨ w > 8 ∨ a < 0 ∨ a > s.size then (0, 0, 2) else if (s.size : Int) - a < w then (0, 0, 3) else (gets s a w.toNat, a + w, 0)

/-! #### numbers narrowed -/
/-- a number narrowed to b bits -/
def nar (n : Int) (b : Nat) : Int := (n + 2 ^ (b - 1)) % 2 ^ b - 2 ^ (b - 1)

theorem pow_pos' (b : Nat) : (0 : Int) < 2 ^ b := Int.pow_pos (by decide)
theorem nar_idem (n : Int) (b : Nat) : nar (nar n b) b = nar n b := by
  unfold nar
  have e : (n + 2 ^ (b - 1)) % 2 ^ b - 2 ^ (b - 1) + 2 ^ (b - 1) = (n + 2 ^ (b - 1)) % 2 ^ b := by omega
  rw [e, Int.emod_emod]
theorem nar_cut (n : Int) (b : Nat) (h : 1 ≤ b) (h' : b ≤ 64) : wrap64 (n * 2 ^ (64 - b)) / 2 ^ (64 - b) = nar n b := by
  have hp := pow_pos' (64 - b)
  have e1 : (9223372036854775808 : Int) = 2 ^ (b - 1) * 2 ^ (64 - b) := by rw [← Int.pow_add]; rw [show b - 1 + (64 - b) = 63 by omega]; decide
  have e2 : (18446744073709551616 : Int) = 2 ^ b * 2 ^ (64 - b) := by rw [← Int.pow_add]; rw [show b + (64 - b) = 64 by omega]; decide
  have e : wrap64 (n * 2 ^ (64 - b)) = nar n b * 2 ^ (64 - b) := by
    unfold wrap64
    rw [e1, e2, ← Int.add_mul, Int.mul_comm _ (2 ^ (64 - b)), Int.mul_comm (2 ^ b) (2 ^ (64 - b)), Int.mul_emod_mul_of_pos _ _ hp]
    unfold nar
    rw [Int.sub_mul, Int.mul_comm (2 ^ (64 - b))]
  rw [e, Int.mul_ediv_cancel _ (by omega)]
theorem nar_bits (n : Int) (b : Nat) (h : 1 ≤ b) (h' : b ≤ 64) :
    nar n b = (n % 18446744073709551616) % 2 ^ (b - 1) - (n % 18446744073709551616 / 2 ^ (b - 1) % 2) * 2 ^ (b - 1) := by
  have hd : (2 : Int) ^ b ∣ 18446744073709551616 := ⟨2 ^ (64 - b), by rw [← Int.pow_add]; rw [show b + (64 - b) = 64 by omega]; decide⟩
  have hn : nar n b = nar (n % 18446744073709551616) b := by
    unfold nar
    rw [Int.add_emod, Int.add_emod (n % 18446744073709551616), Int.emod_emod_of_dvd _ hd]
  rw [hn]
  generalize n % 18446744073709551616 = u
  unfold nar
  have eb : (2 : Int) ^ b = 2 * 2 ^ (b - 1) := by rw [← Int.pow_succ']; congr 1; omega
  rw [eb]
  have hp := pow_pos' (b - 1)
  generalize (2 : Int) ^ (b - 1) = p at *
  have e1 := Int.mul_ediv_add_emod u p
  have e2 := Int.mul_ediv_add_emod (u / p) 2
  have h0 := Int.emod_nonneg u (show p ≠ 0 by omega)
  have h1 := Int.emod_lt_of_pos u hp
  have e3 : u + p = (u % p + (u / p % 2) * p + p) + (2 * p) * (u / p / 2) := by
    have : u = p * (2 * (u / p / 2) + u / p % 2) + u % p := by rw [e2, e1]
    rw [Int.mul_add, ← Int.mul_assoc, Int.mul_comm p 2, Int.mul_comm p (u / p % 2)] at this
    omega
  rw [e3, Int.add_mul_emod_self_left]
  rcases Int.emod_two_eq (u / p) with ht | ht <;> rw [ht]
  · rw [Int.emod_eq_of_lt (by omega) (by omega)]; omega
  · rw [show u % p + 1 * p + p = u % p + 2 * p by omega, Int.add_emod_right, Int.emod_eq_of_lt (by omega) (by omega)]; omega

theorem toList_loop (bs : ByteArray) (i : Nat) (r : List UInt8) : ByteArray.toList.loop bs i r = r.reverse ++ bs.data.toList.drop i := by
  induction h : bs.size - i generalizing i r with
  | zero =>
    unfold ByteArray.toList.loop
    have hs : bs.data.toList.length = bs.size := by simp
    rw [if_neg (by omega), List.drop_eq_nil_of_le (by omega)]; simp
  | succ d ih =>
    unfold ByteArray.toList.loop
    have hs : bs.data.toList.length = bs.size := by simp
    rw [if_pos (by omega), ih (i + 1) _ (by omega), List.drop_eq_getElem_cons (i := i) (by omega)]
    simp [ByteArray.get!]
    show bs.data[i]! = _
    rw [getElem!_pos bs.data i (by show i < bs.size; omega)]
theorem toList_data (bs : ByteArray) : bs.toList = bs.data.toList := by
  unfold ByteArray.toList; rw [toList_loop]; simp
theorem int_mod_step (u : Int) (i : Nat) (h : 0 ≤ u) : u % 2 ^ (i + 1) = u % 2 ^ i + (u / 2 ^ i % 2) * 2 ^ i := by
  obtain ⟨n, rfl⟩ := Int.eq_ofNat_of_zero_le h
  have := @Nat.mod_pow_succ n 2 i
  rw [Nat.mul_comm] at this
  exact_mod_cast this

/-! #### words turned -/
/-- a word of 32 bits turned to the left by s, 0 ≤ s ≤ 31 -/
def rotN (x s : Nat) : Nat := (x <<< s) % 2 ^ 32 ||| x >>> (32 - s)
theorem rotN_lt (x s : Nat) (h : x < 2 ^ 32) : rotN x s < 2 ^ 32 := by
  unfold rotN
  refine Nat.or_lt_two_pow (Nat.mod_lt _ (by decide)) ?_
  rw [Nat.shiftRight_eq_div_pow]
  exact Nat.lt_of_le_of_lt (Nat.div_le_self _ _) h
theorem rotN_bit (x s i : Nat) (h : x < 2 ^ 32) (hs : s < 32) (hi : i < 32) : (rotN x s).testBit i = x.testBit ((i + 32 - s) % 32) := by
  unfold rotN
  rw [Nat.testBit_or, Nat.testBit_mod_two_pow, Nat.testBit_shiftLeft, Nat.testBit_shiftRight]
  by_cases hc : s ≤ i
  · have e : (i + 32 - s) % 32 = i - s := by omega
    have z : x.testBit (32 - s + i) = false := Nat.testBit_lt_two_pow (Nat.lt_of_lt_of_le h (Nat.pow_le_pow_right (by decide) (by omega)))
    rw [e, z]; simp [hi, hc]
  · have e : (i + 32 - s) % 32 = 32 - s + i := by omega
    rw [e]; simp [hc]
theorem rotN_back (x s : Nat) (h : x < 2 ^ 32) (hs : s < 32) : rotN (rotN x s) ((32 - s) % 32) = x := by
  apply Nat.eq_of_testBit_eq
  intro i
  by_cases hi : i < 32
  · rw [rotN_bit _ _ _ (rotN_lt x s h) (by omega) hi, rotN_bit _ _ _ h hs (by omega)]
    congr 1; omega
  · rw [Nat.testBit_lt_two_pow (Nat.lt_of_lt_of_le (rotN_lt _ _ (rotN_lt x s h)) (Nat.pow_le_pow_right (by decide) (by omega))), Nat.testBit_lt_two_pow (Nat.lt_of_lt_of_le h (Nat.pow_le_pow_right (by decide) (by omega)))]
theorem testBit_int (m i : Nat) : (m : Int) / 2 ^ i % 2 = if m.testBit i then 1 else 0 := by
  rw [Nat.testBit_eq_decide_div_mod_eq]
  have : ((m : Int) / 2 ^ i % 2) = ((m / 2 ^ i % 2 : Nat) : Int) := by simp
  rw [this]
  by_cases h : m / 2 ^ i % 2 = 1
  · simp [h]
  · have : m / 2 ^ i % 2 = 0 := by omega
    simp [this]
theorem half_step (m i : Nat) : (m : Int) / 2 ^ i = 2 * ((m : Int) / 2 ^ (i + 1)) + (if m.testBit i then 1 else 0) := by
  rw [← testBit_int, Int.pow_succ, ← Int.ediv_ediv_of_nonneg (Int.le_of_lt (pow_pos' i))]
  omega

end Go.Proofs.Ytjicfkmpgogppaa.Plain
