/-
  Plain facts on numbers, bits and bytes: no program in sight.
-/
import Derived.Laws.BitsLemmas
import Derived.RowKit
import GoSem.Claim
import Derived.Laws.BytesArg
import Derived.Test.YtjicfkmpgogppaaWd
namespace Go.Proofs.Ytjicfkmpgogppaa.Plain
set_option linter.unusedVariables false
set_option linter.unusedSimpArgs false
open Go Go.RowKit Go.Proofs.YtjicfkmpgogppaaW.PrintWords Go.Proofs.YtjicfkmpgogppaaW.PrintLast Go.Proofs.YtjicfkmpgogppaaW.PrintMore


theorem bv32 (x : Int) (h0 : 0 ≤ x) (h1 : x < 4294967296) : (BitVec.ofInt 32 x).toNat = x.toNat := by
  rw [BitVec.toNat_ofInt]; omega
theorem wu32 (n : Int) : IntKind.u32.wrap n = n % 4294967296 := IntKind.wrap_u32 n
theorem or_u32 (x y : Int) (h0 : 0 ≤ x) (h1 : x < 4294967296) (k0 : 0 ≤ y) (k1 : y < 4294967296) : bits .or .u32 x y = ((x.toNat ||| y.toNat : Nat) : Int) := by
  show IntKind.u32.wrap ((BitVec.ofInt 32 x ||| BitVec.ofInt 32 y).toNat : Int) = _
  rw [BitVec.toNat_or, bv32 x h0 h1, bv32 y k0 k1]
  have := Nat.or_lt_two_pow (x := x.toNat) (y := y.toNat) (n := 32) (by omega) (by omega)
  rw [wu32]; omega
theorem and_u32 (x y : Int) (h0 : 0 ≤ x) (h1 : x < 4294967296) (k0 : 0 ≤ y) (k1 : y < 4294967296) : bits .and .u32 x y = ((x.toNat &&& y.toNat : Nat) : Int) := by
  show IntKind.u32.wrap ((BitVec.ofInt 32 x &&& BitVec.ofInt 32 y).toNat : Int) = _
  rw [BitVec.toNat_and, bv32 x h0 h1, bv32 y k0 k1]
  have := Nat.and_lt_two_pow (y := y.toNat) x.toNat (n := 32) (by omega)
  rw [wu32]; omega
theorem w64 {n : Int} (h : -9223372036854775808 ≤ n) (h' : n ≤ 9223372036854775807) : wrap64 n = n := by unfold wrap64; omega
/-! #### bytes of numbers -/
/-- the lowest w bytes of n, the highest first -/
def puts : Nat → Int → List Int
  | 0, _ => []
  | w + 1, n => puts w (n / 256) ++ [n % 256]
/-- what Put answers -/
def put (w n : Int) : ByteArray := strOfNums (puts (max 0 (min w 8)).toNat n)
/-! #### numbers narrowed -/
theorem toList_loop (bs : ByteArray) (i : Nat) (r : List UInt8) : ByteArray.toList.loop bs i r = r.reverse ++ bs.data.toList.drop i := by
  induction h : bs.size - i generalizing i r with
  | zero =>
    unfold ByteArray.toList.loop
    have hs : bs.data.toList.length = bs.size := by simp
    rw [if_neg (by omega), List.drop_eq_nil_of_le (by omega)]; simp
  | succ d ih =>
    unfold ByteArray.toList.loop
    have hs : bs.data.toList.length = bs.size := by simp
    rw [if_pos (by omega), ih (i + 1) _ (by omega), List.drop_eq_getElem_cons (i := i) (by omega)]
    simp [ByteArray.get!]
    show bs.data[i]! = _
    rw [getElem!_pos bs.data i (by show i < bs.size; omega)]
theorem toList_data (bs : ByteArray) : bs.toList = bs.data.toList := by
  unfold ByteArray.toList; rw [toList_loop]; simp
/-! #### words turned -/
end Go.Proofs.Ytjicfkmpgogppaa.Plain
