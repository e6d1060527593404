/-
  sha.right: a word turned to the right, by a fixed number of places; words of 32 bits as natural numbers.
-/
import Derived.Test.YtelhajoedlaohaaDoorProg
import Derived.Test.YtelhajoedlaohaaDoorWMore
import Derived.Tactics
import Derived.Tactics2
import Derived.WalkKit
import Derived.IntWalk
import Derived.Outline
import Derived.Laws.BitsAll
import Derived.Deep.QuietTactic
import Derived.BigQuiet
import Derived.StillTailTactics
import Derived.LoopTactic
import Derived.Deep.CutRange
namespace Go.Proofs.YtelhajoedlaohaaDoor.Sha
set_option linter.unusedVariables false
set_option linter.unusedSimpArgs false
open Go Go.RowKit Go.Proofs.YtelhajoedlaohaaDoorW.PrintWords Go.Proofs.YtelhajoedlaohaaDoorW.PrintLast Go.Proofs.YtelhajoedlaohaaDoorW.PrintMore
/-- a word turned to the right -/
def rorN (x k : Nat) : Nat := (x * 2 ^ (32 - k)) % 4294967296 ||| x / 2 ^ k
theorem rorN_lt (x k : Nat) (hx : x < 4294967296) : rorN x k < 4294967296 := by
  unfold rorN
  exact Nat.or_lt_two_pow (n := 32) (Nat.mod_lt _ (by decide)) (Nat.lt_of_le_of_lt (Nat.div_le_self _ _) hx)
theorem wrapN (a : Nat) : IntKind.u32.wrap (a : Int) = ((a % 4294967296 : Nat) : Int) := by rw [IntKind.wrap_u32']; omega
theorem exor (a b : Nat) (ha : a < 4294967296) (hb : b < 4294967296) : ∃ c : Nat, bits .xor .u32 (a : Int) (b : Int) = (c : Int) ∧ c < 4294967296 ∧ Aside0 (c = a ^^^ b) :=
  ⟨a ^^^ b, u32_xor_nat a b ha hb, Nat.xor_lt_two_pow (n := 32) ha hb, ⟨rfl⟩⟩
theorem eand (a b : Nat) (ha : a < 4294967296) (hb : b < 4294967296) : ∃ c : Nat, bits .and .u32 (a : Int) (b : Int) = (c : Int) ∧ c < 4294967296 ∧ Aside0 (c = a &&& b) :=
  ⟨a &&& b, u32_and_nat a b ha hb, Nat.and_lt_two_pow (n := 32) a hb, ⟨rfl⟩⟩
theorem eor (a b : Nat) (ha : a < 4294967296) (hb : b < 4294967296) : ∃ c : Nat, bits .or .u32 (a : Int) (b : Int) = (c : Int) ∧ c < 4294967296 ∧ Aside0 (c = a ||| b) :=
  ⟨a ||| b, u32_or_nat a b ha hb, Nat.or_lt_two_pow (n := 32) ha hb, ⟨rfl⟩⟩
theorem eadd (a b : Nat) : ∃ c : Nat, IntKind.u32.wrap ((a : Int) + (b : Int)) = (c : Int) ∧ c < 4294967296 ∧ Aside0 (c = (a + b) % 4294967296) :=
  ⟨(a + b) % 4294967296, wrapN (a + b), Nat.mod_lt _ (by decide), ⟨rfl⟩⟩
set_option maxHeartbeats 1000000 in
theorem rot_any (x s k : Nat) (a1 : Int) (w : World) (hx : x < 4294967296) (hj : bits .and .u64 (IntKind.u64.wrap a1) 31 = (s : Int)) (h1 : 1 ≤ s) (h2 : s ≤ 31) (hk : k + s = 32) :
    Calls Tryd.prog 48 #[.int .u32 x, .int .i64 a1] w fun e w' => e = .returned (.int .u32 (rorN x k : Nat)) ∧ w' = w := by
  have hs32 : (s : Int) ≤ 32 := by omega
  have h0s : (0 : Int) ≤ (s : Int) := by omega
  have h0k : (0 : Int) ≤ (k : Int) := by omega
  have hji6 : IntKind.u64.wrap (32 - (s : Int)) = (k : Int) := by rw [IntWalk.u64_in _ (by omega)]; omega
  have e3 := Aside0.mk (show bits .or .u32 ((x : Int) * 2 ^ s % 4294967296) ((x : Int) / 2 ^ min k 32) = ((rorN x k : Nat) : Int) by
    have e1 : (x : Int) * 2 ^ s % 4294967296 = ((x * 2 ^ (32 - k) % 4294967296 : Nat) : Int) := by rw [show 32 - k = s by omega]; simp
    have e2 : (x : Int) / 2 ^ min k 32 = ((x / 2 ^ k : Nat) : Int) := by rw [show min k 32 = k by omega]; simp
    rw [e1, e2, u32_or_nat _ _ (Nat.mod_lt _ (by decide)) (Nat.lt_of_le_of_lt (Nat.div_le_self _ _) hx)]; rfl)
  clear hk h1 h2
  go_enter Tryd.func48, Tryd.ntmps48
  go_wp2
  go_ret
  exact ⟨congrArg (fun n => Ending.returned (.int .u32 n)) e3.out, rfl⟩
set_option maxHeartbeats 1000000 in
theorem right_any (x k : Nat) (w : World) (hx : x < 4294967296) (h1 : 1 ≤ k) (h2 : k ≤ 31) :
    Calls Tryd.prog 28 #[.int .u32 x, .int .i64 k] w fun e w' => e = .returned (.int .u32 (rorN x k : Nat)) ∧ w' = w := by
  have H := fun w => rot_any x (32 - k) k (-(k : Int)) w hx (by
    have e : IntKind.u64.wrap (-(k : Int)) = ((18446744073709551616 - k : Nat) : Int) := by
      rw [IntKind.wrap_u64]; omega
    rw [e, show (31 : Int) = ((31 : Nat) : Int) from rfl, u64_and_nat _ _ (by omega) (by decide), show (31 : Nat) = 2 ^ 5 - 1 by rfl, Nat.and_two_pow_sub_one_eq_mod]
    congr 1; omega) (by omega) (by omega) (by omega)
  go_enter Tryd.func28, Tryd.ntmps28
  go_wp2_with ((with_reducible refine (H _).mono ?_); rintro e w' ⟨rfl, rfl⟩)
  go_ret
  exact ⟨rfl, rfl⟩
end Go.Proofs.YtelhajoedlaohaaDoor.Sha
