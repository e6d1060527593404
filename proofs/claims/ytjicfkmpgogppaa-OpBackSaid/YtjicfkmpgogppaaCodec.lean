/-
  A value's bytes are read back; bytes cut off are too short; bytes that are read are the value's bytes.
-/
import Derived.Test.YtjicfkmpgogppaaPv
import Derived.Test.YtjicfkmpgogppaaVp
namespace Go.Proofs.Ytjicfkmpgogppaa.Co
set_option linter.unusedVariables false
set_option linter.unusedSimpArgs false
open Go Go.RowKit Go.Proofs.Ytjicfkmpgogppaa.Plain Go.Proofs.Ytjicfkmpgogppaa.Words Go.Proofs.Ytjicfkmpgogppaa.Vr Go.Proofs.Ytjicfkmpgogppaa.Vs Go.Proofs.Ytjicfkmpgogppaa.Pk Go.Proofs.Ytjicfkmpgogppaa.Pv Go.Proofs.Ytjicfkmpgogppaa.PO Go.Proofs.YtjicfkmpgogppaaW.PrintWords Go.Proofs.YtjicfkmpgogppaaW.PrintLast Go.Proofs.YtjicfkmpgogppaaW.PrintMore
abbrev mk := Rr.mkV
abbrev no := Rr.noV
/-! #### numbers -/
theorem wdl_spec : ∀ (k : Nat) (n : Int), 0 < n → n < 256 ^ k → 1 ≤ wdl k n ∧ wdl k n ≤ k ∧ (256 : Int) ^ (wdl k n - 1) ≤ n ∧ n < 256 ^ wdl k n
  | 0, n, h0, h1 => by rw [Int.pow_zero] at h1; omega
  | k + 1, n, h0, h1 => by
    rw [wdl_step k n h0]
    by_cases c : n < 256
    · have : n / 256 = 0 := by omega
      rw [this, wdl_zero]
      refine ⟨by omega, by omega, ?_, ?_⟩
      · show (256 : Int) ^ 0 ≤ n; rw [Int.pow_zero]; omega
      · show n < (256 : Int) ^ (0 + 1); rw [Nat.zero_add, Int.pow_succ, Int.pow_zero]; omega
    · have h1' : n < (256 : Int) ^ k * 256 := by rw [← Int.pow_succ]; exact h1
      have ih := wdl_spec k (n / 256) (by omega) (by omega)
      obtain ⟨m, hm⟩ : ∃ m, wdl k (n / 256) = m + 1 := ⟨wdl k (n / 256) - 1, by omega⟩
      rw [hm] at ih ⊢
      obtain ⟨_, i2, i3, i4⟩ := ih
      rw [Nat.add_sub_cancel] at i3
      refine ⟨by omega, by omega, ?_, ?_⟩
      · rw [Nat.add_sub_cancel, Int.pow_succ]; omega
      · rw [Int.pow_succ]; omega
theorem fold_back {b : Int} (h : -9223372036854775808 ≤ b ∧ b ≤ 9223372036854775807) : (if foldR b % 2 = 0 then foldR b / 2 else -(foldR b / 2) - 1) = b := by
  unfold foldR
  by_cases c : 0 ≤ b
  · rw [if_pos c, if_pos (by omega)]; omega
  · rw [if_neg c, if_neg (by omega)]; omega
theorem width {b : Int} (h : -9223372036854775808 ≤ b ∧ b ≤ 9223372036854775807) : wdl 9 (foldR b) ≤ 8 := by
  have r := foldR_range h
  have h9 := wdl_le (foldR b) 8
  have h8 : (256 : Int) ^ 8 = 18446744073709551616 := by decide
  have e : wdl 9 (foldR b) = wdl 8 (foldR b) := wdl_more 8 (foldR b) (by omega)
  omega
/-! #### values read back -/
mutual
def norm : V → V
  | ⟨a, b, c, l⟩ => if a = 0 then ⟨0, b, ⟨#[]⟩, []⟩ else if a = 1 then ⟨1, 0, c, []⟩ else ⟨2, 0, ⟨#[]⟩, norms l⟩
def norms : List V → List V
  | [] => []
  | x :: l => norm x :: norms l
end
theorem intR_back (A R : ByteArray) {b : Int} (h : -9223372036854775808 ≤ b ∧ b ≤ 9223372036854775807) : intR (A ++ ((put 1 (wdl 9 (foldR b)) ++ put (wdl 9 (foldR b)) (foldR b)) ++ R)) A.size = (0, b, (A.size : Int) + 1 + (wdl 9 (foldR b) : Int)) := by
  have r := foldR_range h
  have hw := width h
  have h9 : (256 : Int) ^ 9 = 4722366482869645213696 := by decide
  have g1 := get_put A (put (wdl 9 (foldR b)) (foldR b) ++ R) 1 (wdl 9 (foldR b)) (by omega) (by omega) (by omega)
  have e1 : A ++ ((put 1 (wdl 9 (foldR b)) ++ put (wdl 9 (foldR b)) (foldR b)) ++ R) = A ++ (put 1 (wdl 9 (foldR b)) ++ (put (wdl 9 (foldR b)) (foldR b) ++ R)) := by rw [ByteArray.append_assoc]
  have e2 : (wdl 9 (foldR b) : Int) % 256 ^ (1 : Int).toNat = (wdl 9 (foldR b) : Int) := by
    have : (256 : Int) ^ (1 : Int).toNat = 256 := rfl
    rw [this]; omega
  rw [e2] at g1
  unfold intR
  rw [e1, g1]
  dsimp only
  rw [if_pos rfl, if_neg (by omega)]
  by_cases c : foldR b = 0
  · have hb : b = 0 := by unfold foldR at c; split at c <;> omega
    rw [c, wdl_zero, hb]
    simp
  · have sp := wdl_spec 9 (foldR b) (by omega) (by omega)
    have hne : ¬ ((wdl 9 (foldR b) : Int) = 0) := by omega
    rw [if_neg hne]
    have g2 := get_put (A ++ put 1 (wdl 9 (foldR b))) R (wdl 9 (foldR b)) (foldR b) r.1 (by omega) (by omega)
    have e3 : (A ++ put 1 (wdl 9 (foldR b))).size = A.size + 1 := by rw [size_app, size_put]; rfl
    rw [e3, ByteArray.append_assoc] at g2
    have e4 : foldR b % 256 ^ (wdl 9 (foldR b) : Int).toNat = foldR b := by rw [Int.toNat_natCast]; exact Int.emod_eq_of_lt r.1 sp.2.2.2
    rw [e4] at g2
    rw [show ((A.size : Int) + 1) = ((A.size + 1 : Nat) : Int) from rfl, g2]
    dsimp only
    have e5 : foldR b / 2 ^ (8 * ((wdl 9 (foldR b) : Int) - 1)).toNat ≠ 0 := by
      rw [show (8 * ((wdl 9 (foldR b) : Int) - 1)) = 8 * ((wdl 9 (foldR b) - 1 : Nat) : Int) by omega, pow8]
      have hp : (0 : Int) < 256 ^ (wdl 9 (foldR b) - 1) := Int.pow_pos (by decide)
      have : 1 ≤ foldR b / 256 ^ (wdl 9 (foldR b) - 1) := by rw [Int.le_ediv_iff_mul_le hp]; omega
      omega
    rw [if_pos rfl, if_neg e5, fold_back h]
theorem one_put (n : Int) (B : ByteArray) (h : B = put 1 n) (h0 : 0 ≤ n) (h1 : n < 256) (A R : ByteArray) : getR (A ++ (B ++ R)) A.size 1 = (n, (A.size : Int) + 1, 0) := by
  subst h
  rw [get_put A R 1 n h0 (by omega) (by omega)]
  have : (256 : Int) ^ (1 : Int).toNat = 256 := rfl
  rw [this, Int.emod_eq_of_lt h0 h1]
mutual
theorem val_back : ∀ (x : V) (d : Int) (k : Nat), 0 ≤ d → d ≤ 8 → 8 - d < k → Wf x → (putV x d).2 = 0 → ∀ A R : ByteArray, valR mk no k (A ++ ((putV x d).1 ++ R)) A.size d = some (0, norm x, (A.size : Int) + ((putV x d).1.size : Int))
  | _, _, 0, _, h1, h2, _, _, _, _ => absurd h2 (by omega)
  | ⟨a, b, c, l⟩, d, k + 1, h0, h1, h2, hw, he, A, R => by
    simp only [Wf] at hw
    have hn : norm ⟨a, b, c, l⟩ = if a = 0 then ⟨0, b, ⟨#[]⟩, []⟩ else if a = 1 then ⟨1, 0, c, []⟩ else ⟨2, 0, ⟨#[]⟩, norms l⟩ := by simp only [norm]
    by_cases c0 : a = 0
    · have hP : putV ⟨a, b, c, l⟩ d = (intB b, 0) := by simp only [putV]; rw [if_pos c0]
      rw [hP, hn, if_pos c0]
      have e0 : intB b = put 1 1 ++ (put 1 (wdl 9 (foldR b)) ++ put (wdl 9 (foldR b)) (foldR b)) := by unfold intB; rw [ByteArray.append_assoc]; rfl
      have e1 : (intB b).size = 2 + wdl 9 (foldR b) := by
        have := width hw.1
        rw [e0, size_app, size_app, size_put, size_put, size_put]
        have : (max (0 : Int) (min 1 8)).toNat = 1 := rfl
        omega
      have hk := one_put 1 (put 1 1) rfl (by omega) (by omega) A ((put 1 (wdl 9 (foldR b)) ++ put (wdl 9 (foldR b)) (foldR b)) ++ R)
      have hi := intR_back (A ++ put 1 1) R hw.1
      have e3 : (A ++ put 1 1).size = A.size + 1 := by rw [size_app, size_put]; rfl
      rw [e3] at hi
      have es : A ++ (intB b ++ R) = A ++ (put 1 1 ++ ((put 1 (wdl 9 (foldR b)) ++ put (wdl 9 (foldR b)) (foldR b)) ++ R)) := by rw [e0, ByteArray.append_assoc]
      have es2 : A ++ (put 1 1 ++ ((put 1 (wdl 9 (foldR b)) ++ put (wdl 9 (foldR b)) (foldR b)) ++ R)) = (A ++ put 1 1) ++ ((put 1 (wdl 9 (foldR b)) ++ put (wdl 9 (foldR b)) (foldR b)) ++ R) := by simp only [ByteArray.append_assoc]
      show valR mk no (k + 1) (A ++ (intB b ++ R)) A.size d = _
      simp only [valR]
      rw [es, hk]
      dsimp only
      rw [if_pos rfl, if_pos rfl, es2, show ((A.size : Int) + 1) = ((A.size + 1 : Nat) : Int) from rfl, hi]
      dsimp only
      rw [if_pos rfl, e1]
      simp only [Option.some.injEq, Prod.mk.injEq, true_and]
      omega
    by_cases c1 : a = 1
    · by_cases c2 : (c.size : Int) > 4096
      · have hP : putV ⟨a, b, c, l⟩ d = (⟨#[]⟩, 5) := by simp only [putV]; rw [if_neg c0, if_pos c1, if_pos c2]
        rw [hP] at he; exact absurd he (by decide)
      · have hP : putV ⟨a, b, c, l⟩ d = ((⟨#[2]⟩ : ByteArray) ++ (Go.Proofs.Ytjicfkmpgogppaa.WordsA.textR c).1, 0) := by simp only [putV]; rw [if_neg c0, if_pos c1, if_neg c2]
        have ht : Go.Proofs.Ytjicfkmpgogppaa.WordsA.textR c = (put 2 c.size ++ c, 0) := by unfold Go.Proofs.Ytjicfkmpgogppaa.WordsA.textR; rw [if_neg (by omega)]
        rw [hP, ht, hn, if_neg c0, if_pos c1]
        show valR mk no (k + 1) (A ++ (((⟨#[2]⟩ : ByteArray) ++ (put 2 c.size ++ c)) ++ R)) A.size d = some (0, ⟨1, 0, c, []⟩, (A.size : Int) + (((⟨#[2]⟩ : ByteArray) ++ (put 2 c.size ++ c)).size : Int))
        have hk := one_put 2 (⟨#[2]⟩ : ByteArray) rfl (by omega) (by omega) A ((put 2 c.size ++ c) ++ R)
        have g := get_put (A ++ (⟨#[2]⟩ : ByteArray)) (c ++ R) 2 c.size (by omega) (by omega) (by omega)
        have e3 : (A ++ (⟨#[2]⟩ : ByteArray)).size = A.size + 1 := by rw [size_app]; rfl
        have e4 : (c.size : Int) % 256 ^ (2 : Int).toNat = (c.size : Int) := by
          have : (256 : Int) ^ (2 : Int).toNat = 65536 := rfl
          rw [this]; omega
        rw [e3, e4] at g
        have ez : ((⟨#[2]⟩ : ByteArray) ++ (put 2 c.size ++ c)).size = 3 + c.size := by
          rw [size_app, size_app, size_put]
          have : (max (0 : Int) (min 2 8)).toNat = 2 := rfl
          have : (⟨#[2]⟩ : ByteArray).size = 1 := rfl
          omega
        have es : A ++ (((⟨#[2]⟩ : ByteArray) ++ (put 2 c.size ++ c)) ++ R) = A ++ ((⟨#[2]⟩ : ByteArray) ++ ((put 2 c.size ++ c) ++ R)) := by simp only [ByteArray.append_assoc]
        have es2 : A ++ ((⟨#[2]⟩ : ByteArray) ++ ((put 2 c.size ++ c) ++ R)) = (A ++ (⟨#[2]⟩ : ByteArray)) ++ (put 2 c.size ++ (c ++ R)) := by simp only [ByteArray.append_assoc]
        have hz : ((A ++ (⟨#[2]⟩ : ByteArray)) ++ (put 2 c.size ++ (c ++ R))).size = A.size + 3 + c.size + R.size := by
          rw [size_app, e3, size_app, size_put, size_app]
          have : (max (0 : Int) (min 2 8)).toNat = 2 := rfl
          omega
        have hcut : ((A ++ (⟨#[2]⟩ : ByteArray)) ++ (put 2 c.size ++ (c ++ R))).extract (A.size + 3) (A.size + 3 + c.size) = c := by
          have := cut_mid ((A ++ (⟨#[2]⟩ : ByteArray)) ++ put 2 c.size) c R
          have e5 : ((A ++ (⟨#[2]⟩ : ByteArray)) ++ put 2 c.size).size = A.size + 3 := by
            rw [size_app, e3, size_put]
            have : (max (0 : Int) (min 2 8)).toNat = 2 := rfl
            omega
          rw [e5, ByteArray.append_assoc] at this
          exact this
        simp only [valR]
        rw [es, hk]
        dsimp only
        rw [if_pos rfl, if_neg (by decide), if_pos rfl, es2]
        unfold gtextR
        rw [show ((A.size : Int) + 1) = ((A.size + 1 : Nat) : Int) from rfl, g]
        dsimp only
        rw [if_pos rfl, hz]
        rw [if_neg (show ¬ (((A.size + 3 + c.size + R.size : Nat) : Int) - (((A.size + 1 : Nat) : Int) + 2) < (c.size : Int)) by omega)]
        dsimp only
        rw [if_pos rfl]
        have e6 : (((A.size + 1 : Nat) : Int) + 2).toNat = A.size + 3 := by omega
        have e7 : (((A.size + 1 : Nat) : Int) + 2 + (c.size : Int)).toNat = A.size + 3 + c.size := by omega
        rw [e6, e7, hcut, if_neg c2, ez]
        simp only [Option.some.injEq, Prod.mk.injEq, true_and]
        omega
    by_cases c2 : a = 2
    · by_cases c3 : (l.length : Int) > 256
      · have hP : putV ⟨a, b, c, l⟩ d = (⟨#[]⟩, 5) := by simp only [putV]; rw [if_neg c0, if_neg c1, if_pos c2, if_pos c3]
        rw [hP] at he; exact absurd he (by decide)
      by_cases c4 : d ≥ 8
      · have hP : putV ⟨a, b, c, l⟩ d = (⟨#[]⟩, 5) := by simp only [putV]; rw [if_neg c0, if_neg c1, if_pos c2, if_neg c3, if_pos c4]
        rw [hP] at he; exact absurd he (by decide)
      have hP : putV ⟨a, b, c, l⟩ d = (headB l.length (putVs l (d + 1)).1, (putVs l (d + 1)).2) := by simp only [putV]; rw [if_neg c0, if_neg c1, if_pos c2, if_neg c3, if_neg c4]
      rw [hP] at he ⊢
      rw [hn, if_neg c0, if_neg c1]
      have he2 : (putVs l (d + 1)).2 = 0 := he
      generalize hU : (putVs l (d + 1)).1 = U at *
      have hL : ∀ A2 R2 : ByteArray, listR (fun q => valR mk no k (A2 ++ (U ++ R2)) q (d + 1)) l.length A2.size = some (0, norms l, (A2.size : Int) + (U.size : Int)) := by
        intro A2 R2
        rw [← hU]
        exact list_back l (d + 1) k (by omega) (by omega) (by omega) hw.2 he2 _ A2 R2 rfl
      show valR mk no (k + 1) (A ++ (headB l.length U ++ R)) A.size d = some (0, ⟨2, 0, ⟨#[]⟩, norms l⟩, (A.size : Int) + ((headB l.length U).size : Int))
      have hk := one_put 3 (⟨#[3]⟩ : ByteArray) rfl (by omega) (by omega) A ((put 2 l.length ++ U) ++ R)
      have g := get_put (A ++ (⟨#[3]⟩ : ByteArray)) (U ++ R) 2 l.length (by omega) (by omega) (by omega)
      have e3 : (A ++ (⟨#[3]⟩ : ByteArray)).size = A.size + 1 := by rw [size_app]; rfl
      have e4 : (l.length : Int) % 256 ^ (2 : Int).toNat = (l.length : Int) := by
        have : (256 : Int) ^ (2 : Int).toNat = 65536 := rfl
        rw [this]; omega
      rw [e3, e4] at g
      have es : A ++ (headB l.length U ++ R) = A ++ ((⟨#[3]⟩ : ByteArray) ++ ((put 2 l.length ++ U) ++ R)) := by unfold headB; simp only [ByteArray.append_assoc]
      have es2 : A ++ ((⟨#[3]⟩ : ByteArray) ++ ((put 2 l.length ++ U) ++ R)) = (A ++ (⟨#[3]⟩ : ByteArray)) ++ (put 2 l.length ++ (U ++ R)) := by simp only [ByteArray.append_assoc]
      have es3 : (A ++ (⟨#[3]⟩ : ByteArray)) ++ (put 2 l.length ++ (U ++ R)) = ((A ++ (⟨#[3]⟩ : ByteArray)) ++ put 2 l.length) ++ (U ++ R) := by simp only [ByteArray.append_assoc]
      have hp2 : (put 2 l.length).size = 2 := by rw [size_put]; rfl
      have e5 : ((A ++ (⟨#[3]⟩ : ByteArray)) ++ put 2 l.length).size = A.size + 3 := by rw [size_app, e3, hp2]
      have ez : (headB l.length U).size = 3 + U.size := by
        unfold headB
        rw [size_app, size_app, hp2]
        have : (⟨#[3]⟩ : ByteArray).size = 1 := rfl
        omega
      have hl := hL ((A ++ (⟨#[3]⟩ : ByteArray)) ++ put 2 l.length) R
      rw [e5] at hl
      simp only [valR]
      rw [es, hk]
      dsimp only
      rw [if_pos rfl, if_neg (by decide), if_neg (by decide), if_pos rfl, if_neg c4, es2, show ((A.size : Int) + 1) = ((A.size + 1 : Nat) : Int) from rfl, g]
      dsimp only
      rw [if_pos rfl, if_neg c3, es3]
      rw [show ((A.size + 1 : Nat) : Int) + 2 = ((A.size + 3 : Nat) : Int) by omega, show (l.length : Int).toNat = l.length from rfl, hl, Option.bind_some]
      dsimp only
      rw [if_pos rfl, ez]
      simp only [Option.some.injEq, Prod.mk.injEq, true_and]
      omega
    · have hP : putV ⟨a, b, c, l⟩ d = (⟨#[]⟩, 2) := by simp only [putV]; rw [if_neg c0, if_neg c1, if_neg c2]
      rw [hP] at he; exact absurd he (by decide)
theorem list_back : ∀ (l : List V) (d : Int) (k : Nat), 0 ≤ d → d ≤ 8 → 8 - d < k → Wfs l → (putVs l d).2 = 0 → ∀ s A R : ByteArray, s = A ++ ((putVs l d).1 ++ R) → listR (fun q => valR mk no k s q d) l.length A.size = some (0, norms l, (A.size : Int) + ((putVs l d).1.size : Int))
  | [], d, k, _, _, _, _, _, s, A, R, hs => by
    simp only [listR, putVs, norms, List.length_nil]
    have hz : (⟨#[]⟩ : ByteArray).size = 0 := rfl
    rw [hz]; simp
  | x :: r, d, k, h0, h1, h2, hw, he, s, A, R, hs => by
    simp only [Wfs] at hw
    by_cases c : (putV x d).2 = 0
    · have hP : putVs (x :: r) d = ((putV x d).1 ++ (putVs r d).1, (putVs r d).2) := by simp only [putVs]; rw [if_pos c]
      rw [hP] at he hs ⊢
      have e1 : s = A ++ ((putV x d).1 ++ ((putVs r d).1 ++ R)) := by rw [hs]; simp only [ByteArray.append_assoc]
      have e2 : s = (A ++ (putV x d).1) ++ ((putVs r d).1 ++ R) := by rw [e1]; simp only [ByteArray.append_assoc]
      have hx := val_back x d k h0 h1 h2 hw.1 c A ((putVs r d).1 ++ R)
      rw [← e1] at hx
      have hr := list_back r d k h0 h1 h2 hw.2 he s (A ++ (putV x d).1) R e2
      rw [size_app] at hr
      simp only [List.length_cons, listR, norms]
      rw [hx, Option.bind_some]
      dsimp only
      rw [if_pos rfl, show ((A.size : Int) + ((putV x d).1.size : Int)) = ((A.size + (putV x d).1.size : Nat) : Int) by omega, hr, Option.bind_some, size_app]
      simp only [Option.some.injEq, Prod.mk.injEq, true_and]
      omega
    · have hP : putVs (x :: r) d = ((putV x d).1, (putV x d).2) := by simp only [putVs]; rw [if_neg c]
      rw [hP] at he; exact absurd he c
end
end Go.Proofs.Ytjicfkmpgogppaa.Co
