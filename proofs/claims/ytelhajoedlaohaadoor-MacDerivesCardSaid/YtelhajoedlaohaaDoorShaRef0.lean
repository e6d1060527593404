/-
  The document's turn and shift.
-/
import Derived.Test.YtelhajoedlaohaaDoorShaB
import Derived.Test.YtelhajoedlaohaaDoorPlain
import Derived.Test.YtelhajoedlaohaaDoorPDx17
import Derived.Test.YtelhajoedlaohaaDoorPDx18
namespace Go.Proofs.YtelhajoedlaohaaDoor.Sha
set_option linter.unusedVariables false
set_option linter.unusedSimpArgs false
open Go Go.RowKit Go.Proofs.YtelhajoedlaohaaDoor.Plain Go.Proofs.YtelhajoedlaohaaDoor.PD Go.Proofs.YtelhajoedlaohaaDoorW.PrintWords Go.Proofs.YtelhajoedlaohaaDoorW.PrintLast Go.Proofs.YtelhajoedlaohaaDoorW.PrintMore
theorem ror_sum (x k : Nat) (h1 : 1 ≤ k) (h2 : k ≤ 31) : rorN x k = (x / 2 ^ k + x % 2 ^ k * 2 ^ (32 - k)) % 4294967296 ∨ 4294967296 ≤ x := by
  by_cases hx : x < 4294967296
  · left
    have hp : 2 ^ k * 2 ^ (32 - k) = 4294967296 := by rw [← Nat.pow_add, show k + (32 - k) = 32 by omega]
    have h3 : x / 2 ^ k < 2 ^ (32 - k) := by
      rw [Nat.div_lt_iff_lt_mul (Nat.pow_pos (by decide)), Nat.mul_comm, hp]; exact hx
    have h4 : x % 2 ^ k < 2 ^ k := Nat.mod_lt _ (Nat.pow_pos (by decide))
    have e1 : x * 2 ^ (32 - k) % 4294967296 = x % 2 ^ k * 2 ^ (32 - k) := by rw [← hp, Nat.mul_mod_mul_right]
    have e2 : x % 2 ^ k * 2 ^ (32 - k) ||| x / 2 ^ k = x % 2 ^ k * 2 ^ (32 - k) + x / 2 ^ k := by
      rw [Nat.mul_comm]
      exact (Nat.two_pow_add_eq_or_of_lt h3 _).symm
    have h5 : x % 2 ^ k * 2 ^ (32 - k) + x / 2 ^ k < 4294967296 := by
      rw [← hp]
      have : (x % 2 ^ k + 1) * 2 ^ (32 - k) ≤ 2 ^ k * 2 ^ (32 - k) := Nat.mul_le_mul_right _ h4
      rw [Nat.succ_mul] at this
      omega
    unfold rorN
    rw [e1, e2, Nat.add_comm (x / 2 ^ k), Nat.mod_eq_of_lt h5]
  · right; omega
theorem pow_int (k : Nat) : ((2 : Int) ^ k) = ((2 ^ k : Nat) : Int) := by simp
theorem rl1 (x : Int) (lo : Nat) (hlo : 1 ≤ lo) (hx : 0 ≤ x) (hlo2 : lo < 4294967296) (d : Nat) : ∀ (k j : Nat), j + d = 32 → 2 ^ j * 1 ≤ 4294967296 → d < k → ∀ hi : Nat, hi * 2 ^ d < 4294967296 →
    precinctref04_right.l1 k x (lo : Int) (hi : Int) (j : Int) = some (((x.toNat / lo + x.toNat % lo * (hi * 2 ^ d)) % 4294967296 : Nat) : Int) ∨ 4294967296 ≤ x := by
  induction d with
  | zero =>
    intro k j hj _ hk hi hh
    obtain ⟨k, rfl⟩ : ∃ m, k = m + 1 := ⟨k - 1, by omega⟩
    by_cases hxx : x < 4294967296
    · left
      obtain ⟨n, rfl⟩ := Int.eq_ofNat_of_zero_le hx
      simp only [precinctref04_right.l1]
      rw [if_neg (by omega), if_neg (by omega), Int.tdiv_eq_ediv_of_nonneg (by omega), Int.tmod_eq_emod_of_nonneg (by omega)]
      congr 1
      rw [Int.toNat_natCast, Nat.pow_zero, Nat.mul_one, ← Int.natCast_ediv, ← Int.natCast_emod, ← Int.natCast_mul]
      omega
    · right; omega
  | succ d ih =>
    intro k j hj hp hk hi hh
    obtain ⟨k, rfl⟩ : ∃ m, k = m + 1 := ⟨k - 1, by omega⟩
    have hd : 1 ≤ 2 ^ d := Nat.pow_pos (by decide)
    have h2 : hi * 2 ^ (d + 1) = 2 * hi * 2 ^ d := by rw [Nat.pow_succ, Nat.mul_comm (2 ^ d) 2, ← Nat.mul_assoc, Nat.mul_comm hi 2]
    have h3 : 2 * hi < 4294967296 := Nat.lt_of_le_of_lt (Nat.le_mul_of_pos_right _ hd) (h2 ▸ hh)
    have hp2 : 2 ^ (j + 1) * 1 ≤ 4294967296 := by
      have : 2 ^ (j + 1) ≤ 2 ^ 32 := Nat.pow_le_pow_right (by decide) (by omega)
      simpa using this
    rcases ih k (j + 1) (by omega) hp2 (by omega) (2 * hi) (h2 ▸ hh) with h | h
    · left
      simp only [precinctref04_right.l1]
      rw [if_pos (by omega), show (2 * (hi : Int)) % 4294967296 = ((2 * hi : Nat) : Int) by omega, show wrap64 ((j : Int) + 1) = ((j + 1 : Nat) : Int) by unfold wrap64; omega, h, h2]
    · right; exact h
theorem rl0 (x : Int) (b : Nat) (hb : b ≤ 31) (hb1 : 1 ≤ b) (hx : 0 ≤ x) (hx2 : x < 4294967296) (d : Nat) : ∀ (k j : Nat), j + d = b → d + 40 ≤ k →
    precinctref04_right.l0 k x b ((2 ^ j : Nat) : Int) j = some ((rorN x.toNat b : Nat) : Int) := by
  induction d with
  | zero =>
    intro k j hj hk
    obtain ⟨k, rfl⟩ : ∃ m, k = m + 1 := ⟨k - 1, by omega⟩
    obtain rfl : j = b := by omega
    simp only [precinctref04_right.l0]
    rw [if_neg (by omega)]
    have hp : 2 ^ j < 4294967296 := Nat.lt_of_le_of_lt (Nat.pow_le_pow_right (by decide) hb) (by decide)
    rcases rl1 x (2 ^ j) (Nat.pow_pos (by decide)) hx hp (32 - j) k j (by omega) (by omega) (by omega) 1 (by
      rw [Nat.one_mul]; exact Nat.lt_of_le_of_lt (Nat.pow_le_pow_right (by decide) (show 32 - j ≤ 31 by omega)) (by decide)) with h | h
    · rw [show (1 : Int) = ((1 : Nat) : Int) from rfl, h, Nat.one_mul]
      rcases ror_sum x.toNat j hb1 hb with h2 | h2
      · rw [h2]
      · omega
    · omega
  | succ d ih =>
    intro k j hj hk
    obtain ⟨k, rfl⟩ : ∃ m, k = m + 1 := ⟨k - 1, by omega⟩
    simp only [precinctref04_right.l0]
    have hp : 2 ^ (j + 1) < 4294967296 := Nat.lt_of_le_of_lt (Nat.pow_le_pow_right (by decide) (show j + 1 ≤ 31 by omega)) (by decide)
    rw [if_pos (by omega), show (2 * ((2 ^ j : Nat) : Int)) % 4294967296 = ((2 ^ (j + 1) : Nat) : Int) by rw [Nat.pow_succ] at hp ⊢; omega, show wrap64 ((j : Int) + 1) = ((j + 1 : Nat) : Int) by unfold wrap64; omega]
    exact ih k (j + 1) (by omega) (by omega)
theorem rright_some (x b : Nat) (hb : b ≤ 31) (hb1 : 1 ≤ b) (hx : x < 4294967296) : precinctref04_right.f 100 x b = some ((rorN x b : Nat) : Int) := by
  have h := rl0 (x : Int) b hb hb1 (by omega) (by omega) b 100 0 (by omega) (by omega)
  exact h
theorem rshift_loop (b : Nat) (d : Nat) : ∀ (k j x : Nat), j + d = b → d < k → b ≤ 100 → x < 4294967296 → precinctref04_shift.l0 k (x : Int) b j = some ((x / 2 ^ d : Nat) : Int) := by
  induction d with
  | zero =>
    intro k j x hj hk hb hx
    obtain ⟨k, rfl⟩ : ∃ m, k = m + 1 := ⟨k - 1, by omega⟩
    simp only [precinctref04_shift.l0]
    rw [if_neg (by omega), Nat.pow_zero, Nat.div_one]
  | succ d ih =>
    intro k j x hj hk hb hx
    obtain ⟨k, rfl⟩ : ∃ m, k = m + 1 := ⟨k - 1, by omega⟩
    simp only [precinctref04_shift.l0]
    rw [if_pos (by omega), Int.tdiv_eq_ediv_of_nonneg (by omega), show ((x : Int) / 2) % 4294967296 = ((x / 2 : Nat) : Int) by omega, show wrap64 ((j : Int) + 1) = ((j + 1 : Nat) : Int) by unfold wrap64; omega,
      ih k (j + 1) (x / 2) (by omega) (by omega) hb (by omega), Nat.div_div_eq_div_mul, Nat.pow_succ, Nat.mul_comm]
theorem rshift_some (x b : Nat) (hb : b ≤ 31) (hx : x < 4294967296) : precinctref04_shift.f 100 x b = some ((x / 2 ^ b : Nat) : Int) :=
  rshift_loop b b 100 0 x (by omega) (by omega) (by omega) hx
/-- the document's turn and shift, under names -/
theorem rturn_k (x : Nat) (k : Nat) (K : Int) (hK : K = (k : Int)) (hx : x < 4294967296) (h1 : 1 ≤ k) (h2 : k ≤ 31) : ∃ c : Nat, (∀ w : World, Calls Tryd.prog 29 #[.int .u32 (x : Int), .int .i64 K] w fun e w' => e = .returned (.int .u32 (c : Int)) ∧ Below w.heap.size w w') ∧ c < 4294967296 ∧ Aside0 (c = rorN x k) :=
  ⟨rorN x k, fun w => by rw [hK]; exact (precinctref04_right.calls 100 x k _ w (rright_some x k h2 h1 hx)).mono fun e w' h => ⟨h.1, h.2.below⟩, rorN_lt x k hx, ⟨rfl⟩⟩
theorem rshift_k (x : Nat) (k m : Nat) (K : Int) (hK : K = (k : Int)) (hm : m = 2 ^ k) (hx : x < 4294967296) (h2 : k ≤ 31) : ∃ c : Nat, (∀ w : World, Calls Tryd.prog 30 #[.int .u32 (x : Int), .int .i64 K] w fun e w' => e = .returned (.int .u32 (c : Int)) ∧ Below w.heap.size w w') ∧ c < 4294967296 ∧ Aside0 (c = x / m) :=
  ⟨x / m, fun w => by rw [hK, hm]; exact (precinctref04_shift.calls 100 x k _ w (rshift_some x k h2 hx)).mono fun e w' h => ⟨h.1, h.2.below⟩, Nat.lt_of_le_of_lt (Nat.div_le_self _ _) hx, ⟨rfl⟩⟩
end Go.Proofs.YtelhajoedlaohaaDoor.Sha
