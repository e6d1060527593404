/- Of every word and number: the program's Rotate is the reference's, and turned back the word is as it was. No condition beyond the statement's own. -/
import Derived.Test.YtfccgiccllnkkaaWords
namespace Go.Proofs.Ytfccgiccllnkkaa.Pure
open Go Go.RowKit Go.Proofs.Ytfccgiccllnkkaa.Plain Go.Proofs.Ytfccgiccllnkkaa.Words Go.Proofs.Ytfccgiccllnkkaa.PX Go.Proofs.YtfccgiccllnkkaaW.PrintWords Go.Proofs.YtfccgiccllnkkaaW.PrintLast Go.Proofs.YtfccgiccllnkkaaW.PrintMore
theorem rot_some {x s : Int} (hx : 0 ≤ x ∧ x < 4294967296) : bits_RotateLeft32.f x s = some ((rotN x.toNat (s % 32).toNat : Nat) : Int) := by
  have hs0 : 0 ≤ s % 32 := by omega
  have hs1 : s % 32 < 32 := by omega
  have e : bits .and .u64 (IntKind.u64.wrap s) 31 = s % 32 := by
    rw [wu64, and_u64 _ _ (by omega) (by omega) (by omega) (by omega), show (31 : Int).toNat = 2 ^ 5 - 1 by rfl, Nat.and_two_pow_sub_one_eq_mod]
    omega
  unfold bits_RotateLeft32.f
  rw [e, if_pos hs0, wu64, Int.emod_eq_of_lt (a := 32 - s % 32) (by omega) (by omega), if_pos (by omega), shl32 _ _ (by omega), shr32 _ _ (by omega)]
  have hp : (0 : Int) < 2 ^ (32 - s % 32).toNat := pow_pos' _
  have q0 : 0 ≤ x / 2 ^ (32 - s % 32).toNat := Int.ediv_nonneg hx.1 (Int.le_of_lt hp)
  have q1 : x / 2 ^ (32 - s % 32).toNat < 4294967296 := Int.lt_of_le_of_lt (Int.ediv_le_self _ hx.1) hx.2
  rw [or_u32 _ _ (by omega) (by omega) q0 q1]
  unfold rotN
  obtain ⟨n, rfl⟩ := Int.eq_ofNat_of_zero_le hx.1
  have e1 : ((n : Int) * 2 ^ (s % 32).toNat % 4294967296).toNat = (n <<< (s % 32).toNat) % 2 ^ 32 := by
    rw [Nat.shiftLeft_eq]
    have : ((n : Int) * 2 ^ (s % 32).toNat % 4294967296) = ((n * 2 ^ (s % 32).toNat % 2 ^ 32 : Nat) : Int) := by simp
    rw [this]; rfl
  have e2 : ((n : Int) / 2 ^ (32 - s % 32).toNat).toNat = n >>> (32 - (s % 32).toNat) := by
    rw [Nat.shiftRight_eq_div_pow, show (32 - s % 32).toNat = 32 - (s % 32).toNat by omega]
    have : ((n : Int) / 2 ^ (32 - (s % 32).toNat)) = ((n / 2 ^ (32 - (s % 32).toNat) : Nat) : Int) := by simp
    rw [this]; rfl
  rw [e1, e2]; rfl
theorem tmod32 (a : Int) : Int.tmod a 32 % 32 = a % 32 := by
  have h := Int.tmod_add_mul_tdiv a 32
  omega
theorem wrotate_some {x s : Int} (hx : 0 ≤ x ∧ x < 4294967296) : words_Rotate.f x s = some ((rotN x.toNat (s % 32).toNat : Nat) : Int) := by
  unfold words_Rotate.f
  rw [rot_some hx, tmod32]; rfl
theorem rrot_loop (x s : Int) (hx : 0 ≤ x ∧ x < 4294967296) (hs : 0 ≤ s ∧ s < 32) (d : Nat) : ∀ (k : Nat), d ≤ 32 → d + 70 < k →
    precinctref01_Rotate.l0 k x s ((rotN x.toNat s.toNat : Nat) / 2 ^ d : Int) ((d : Int) - 1) = some ((rotN x.toNat s.toNat : Nat) : Int) := by
  have hr := rotN_lt x.toNat s.toNat (by omega)
  induction d with
  | zero =>
    intro k hd hk
    obtain ⟨k, rfl⟩ : ∃ m, k = m + 1 := ⟨k - 1, by omega⟩
    simp only [precinctref01_Rotate.l0]; rw [if_neg (by omega)]
    congr 1
    simp
    omega
  | succ d ih =>
    intro k hd hk
    obtain ⟨k, rfl⟩ : ∃ m, k = m + 1 := ⟨k - 1, by omega⟩
    have hb : ∀ j : Int, 0 ≤ j → j ≤ 31 → j = (((d + 32 - s.toNat) % 32 : Nat) : Int) → precinctref01_Bit.f k (IntKind.u64.wrap x) j = some (if (rotN x.toNat s.toNat).testBit d then 1 else 0) := by
      intro j j0 j1 je
      rw [wu64, Int.emod_eq_of_lt hx.1 (by omega), bit_some k hx.1 (by omega) j0 (by omega) (by omega), rotN_bit _ _ _ (by omega) (by omega) (by omega), je]
      obtain ⟨n, rfl⟩ := Int.eq_ofNat_of_zero_le hx.1
      rw [Int.toNat_natCast, testBit_int]; rfl
    have st := half_step (rotN x.toNat s.toNat) d
    have q0 : 0 ≤ ((rotN x.toNat s.toNat : Nat) : Int) / 2 ^ (d + 1) := Int.ediv_nonneg (by omega) (Int.le_of_lt (pow_pos' _))
    have q1 : ((rotN x.toNat s.toNat : Nat) : Int) / 2 ^ (d + 1) ≤ (rotN x.toNat s.toNat : Nat) := Int.ediv_le_self _ (by omega)
    have fin : ∀ b : Int, b = (if (rotN x.toNat s.toNat).testBit d then 1 else 0) → precinctref01_Rotate.l0 k x s (IntKind.u64.wrap (IntKind.u64.wrap (2 * ((rotN x.toNat s.toNat : Nat) / 2 ^ (d + 1) : Int)) + b)) ((d : Int) - 1) = some ((rotN x.toNat s.toNat : Nat) : Int) := by
      intro b hb'
      have b01 : 0 ≤ b ∧ b ≤ 1 := by rw [hb']; split <;> omega
      rw [wu64, wu64, Int.emod_eq_of_lt (b := 18446744073709551616) (by omega) (by omega), Int.emod_eq_of_lt (b := 18446744073709551616) (by omega) (by omega), hb', ← st]
      exact ih k (by omega) (by omega)
    simp only [precinctref01_Rotate.l0]
    rw [if_pos (by omega), w64 (n := ((d + 1 : Nat) : Int) - 1 - s) (by omega) (by omega)]
    by_cases hc : ((d + 1 : Nat) : Int) - 1 - s < 0
    · rw [if_pos hc, w64 (n := ((d + 1 : Nat) : Int) - 1 - s + 32) (by omega) (by omega), hb _ (by omega) (by omega) (by omega)]
      simp only [Option.bind_some]
      rw [w64 (by omega) (by omega), show ((d + 1 : Nat) : Int) - 1 - 1 = (d : Int) - 1 by omega]
      exact fin _ rfl
    · rw [if_neg hc, hb _ (by omega) (by omega) (by omega)]
      simp only [Option.bind_some]
      rw [w64 (by omega) (by omega), show ((d + 1 : Nat) : Int) - 1 - 1 = (d : Int) - 1 by omega]
      exact fin _ rfl
theorem rrotate_some {x s : Int} (hx : 0 ≤ x ∧ x < 4294967296) : precinctref01_Rotate.f 200 x s = some ((rotN x.toNat (s % 32).toNat : Nat) : Int) := by
  have key : ∀ t : Int, 0 ≤ t → t < 32 → t = s % 32 → precinctref01_Rotate.j0 200 x t = some ((rotN x.toNat (s % 32).toNat : Nat) : Int) := by
    intro t t0 t1 te
    simp only [precinctref01_Rotate.j0]
    have l := rrot_loop x t hx ⟨t0, t1⟩ 32 199 (by omega) (by omega)
    have z : ((rotN x.toNat t.toNat : Nat) : Int) / 2 ^ 32 = 0 := Int.ediv_eq_zero_of_lt (by omega) (by exact_mod_cast rotN_lt x.toNat t.toNat (by omega))
    rw [z] at l
    rw [← te]
    exact l
  unfold precinctref01_Rotate.f
  have h := tmod32 s
  have l1 := Int.tmod_lt_of_pos s (show (0 : Int) < 32 by decide)
  have l2 : -32 < Int.tmod s 32 := by
    have := Int.tmod_lt_of_pos (-s) (show (0 : Int) < 32 by decide)
    rw [Int.neg_tmod] at this; omega
  by_cases hc : Int.tmod s 32 < 0
  · rw [if_pos hc, w64 (by omega) (by omega)]; exact key _ (by omega) (by omega) (by omega)
  · rw [if_neg hc]; exact key _ (by omega) (by omega) (by omega)
theorem WordsRotates : precinctlaw01_WordsRotates.Pure := by
  intro x s hx hs
  have hx' := wf_u32 hx
  have hs' := wf_i64 hs
  refine ⟨200, ?_⟩
  unfold precinctlaw01_WordsRotates.f
  rw [wrotate_some hx', rrotate_some hx', wrotate_some (x := 1) (by omega)]
  simp only [Option.bind_some]
  have hr := rotN_lt x.toNat (s % 32).toNat (by omega)
  have h := tmod32 s
  have l1 := Int.tmod_lt_of_pos s (show (0 : Int) < 32 by decide)
  have l2 : -32 < Int.tmod s 32 := by
    have := Int.tmod_lt_of_pos (-s) (show (0 : Int) < 32 by decide)
    rw [Int.neg_tmod] at this; omega
  rw [w64 (by omega) (by omega), wrotate_some (by omega)]
  have e : ((rotN (1 : Int).toNat ((-1 : Int) % 32).toNat : Nat) : Int) = 2147483648 := by decide
  rw [e]
  simp only [Option.bind_some, if_true, Int.toNat_natCast]
  rw [show (-(Int.tmod s 32) % 32).toNat = (32 - (s % 32).toNat) % 32 by omega, rotN_back _ _ (by omega) (by omega)]
  simp
  omega
end Go.Proofs.Ytfccgiccllnkkaa.Pure
