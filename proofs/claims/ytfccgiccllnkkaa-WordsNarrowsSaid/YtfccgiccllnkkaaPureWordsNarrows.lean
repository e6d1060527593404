/- Of every number and width: the program's Narrow is the reference's, and narrowed again it stays. No condition beyond the statement's own. -/
import Derived.Test.YtfccgiccllnkkaaWords
namespace Go.Proofs.Ytfccgiccllnkkaa.Pure
open Go Go.RowKit Go.Proofs.Ytfccgiccllnkkaa.Plain Go.Proofs.Ytfccgiccllnkkaa.Words Go.Proofs.Ytfccgiccllnkkaa.PX Go.Proofs.YtfccgiccllnkkaaW.PrintWords Go.Proofs.YtfccgiccllnkkaaW.PrintLast Go.Proofs.YtfccgiccllnkkaaW.PrintMore
theorem narrow_some {n w : Int} : words_Narrow.f n w = some (nar n (max 1 (min w 64)).toNat) := by
  unfold words_Narrow.f
  have e : mx 1 (mn w 64) = max 1 (min w 64) := by unfold mx mn; omega
  rw [e, show (64 - max 1 (min w 64)).toNat = 64 - (max 1 (min w 64)).toNat by omega, nar_cut _ _ (by omega) (by omega)]
theorem rnarrow_loop (n : Int) (b : Nat) (hb : 1 ≤ b) (hb' : b ≤ 63) (d : Nat) : ∀ (k i : Nat), i + d + 1 = b → d + 66 < k →
    precinctref01_Narrow.l0 k b (n % 18446744073709551616) (n % 18446744073709551616 % 2 ^ i) (2 ^ i) i = some (nar n b) := by
  have hu0 : 0 ≤ n % 18446744073709551616 := by omega
  have hu1 : n % 18446744073709551616 < 18446744073709551616 := by omega
  induction d with
  | zero =>
    intro k i hi hk
    obtain ⟨k, rfl⟩ : ∃ m, k = m + 1 := ⟨k - 1, by omega⟩
    have hp := pow_pos' i
    have hp2 : (2 : Int) ^ i ≤ 2 ^ 62 := by exact_mod_cast Nat.pow_le_pow_right (by decide) (show i ≤ 62 by omega)
    have l0 := Int.emod_nonneg (n % 18446744073709551616) (show (2 : Int) ^ i ≠ 0 by omega)
    have l1 := Int.emod_lt_of_pos (n % 18446744073709551616) hp
    simp only [precinctref01_Narrow.l0]
    rw [w64 (n := (b : Int) - 1) (by omega) (by omega), if_neg (by omega), bit_some k hu0 hu1 (by omega) (by omega) (by omega)]
    simp only [Option.bind_some]
    rw [nar_bits n b hb (by omega), show ((b : Int) - 1).toNat = i by omega, show b - 1 = i by omega]
    rcases Int.emod_two_eq (n % 18446744073709551616 / 2 ^ i) with ht | ht <;> rw [ht]
    · simp
    · rw [if_pos rfl, w64 (by omega) (by omega)]; simp
  | succ d ih =>
    intro k i hi hk
    obtain ⟨k, rfl⟩ : ∃ m, k = m + 1 := ⟨k - 1, by omega⟩
    have hp := pow_pos' i
    have hp2 : (2 : Int) ^ i ≤ 2 ^ 61 := by exact_mod_cast Nat.pow_le_pow_right (by decide) (show i ≤ 61 by omega)
    have l0 := Int.emod_nonneg (n % 18446744073709551616) (show (2 : Int) ^ i ≠ 0 by omega)
    have l1 := Int.emod_lt_of_pos (n % 18446744073709551616) hp
    simp only [precinctref01_Narrow.l0]
    rw [w64 (n := (b : Int) - 1) (by omega) (by omega), if_pos (by omega), bit_some k hu0 hu1 (by omega) (by omega) (by omega)]
    simp only [Option.bind_some]
    rw [show ((i : Nat) : Int).toNat = i by omega, w64 (n := 2 * 2 ^ i) (by omega) (by omega), w64 (n := (i : Int) + 1) (by omega) (by omega)]
    have ih' := ih k (i + 1) (by omega) (by omega)
    rw [int_mod_step _ _ hu0] at ih'
    rw [Int.pow_succ, Int.mul_comm ((2 : Int) ^ i) 2] at ih'
    rcases Int.emod_two_eq (n % 18446744073709551616 / 2 ^ i) with ht | ht <;> rw [ht] at ih' ⊢
    · rw [if_neg (by decide)]; simpa using ih'
    · rw [if_pos rfl, w64 (by omega) (by omega)]; simpa using ih'
theorem rnarrow_some {n w : Int} (hn : -9223372036854775808 ≤ n ∧ n ≤ 9223372036854775807) : precinctref01_Narrow.f 200 n w = some (nar n (max 1 (min w 64)).toNat) := by
  have key : ∀ b : Int, 1 ≤ b → precinctref01_Narrow.j0 200 n b = some (nar n (max 1 (min b 64)).toNat) := by
    intro b h1
    simp only [precinctref01_Narrow.j0]
    by_cases h : b ≥ 64
    · rw [if_pos h, show (max 1 (min b 64)).toNat = 64 by omega, ← nar_cut n 64 (by omega) (by omega)]
      simp; exact (w64 hn.1 hn.2).symm
    · rw [if_neg h, show (max 1 (min b 64)).toNat = b.toNat by omega]
      have e := rnarrow_loop n b.toNat (by omega) (by omega) (b.toNat - 1) 199 0 (by omega) (by omega)
      rw [show ((b.toNat : Nat) : Int) = b by omega] at e
      rw [wu64]
      simpa using e
  unfold precinctref01_Narrow.f
  by_cases h : w < 1
  · rw [if_pos h, key 1 (by omega), show (max 1 (min 1 64)) = max 1 (min w 64) by omega]
  · rw [if_neg h, key w (by omega)]
theorem WordsNarrows : precinctlaw01_WordsNarrows.Pure := by
  intro n w hn hw
  have hn' := wf_i64 hn
  refine ⟨200, ?_⟩
  unfold precinctlaw01_WordsNarrows.f
  rw [narrow_some, rnarrow_some hn', narrow_some (n := 200) (w := 8)]
  simp only [Option.bind_some]
  rw [narrow_some, nar_idem]
  have e : nar 200 (max 1 (min (8 : Int) 64)).toNat = -56 := by decide
  simp [e]
end Go.Proofs.Ytfccgiccllnkkaa.Pure
