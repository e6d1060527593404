/-
  The plain reader of a value: where it ends, that it ends, over both kinds of values.
-/
import Derived.Test.YtjicfkmpgogppaaWt
import Derived.Test.YtjicfkmpgogppaaVa
namespace Go.Proofs.Ytjicfkmpgogppaa.Rr
set_option linter.unusedVariables false
set_option linter.unusedSimpArgs false
open Go Go.RowKit Go.Proofs.Ytjicfkmpgogppaa.Plain Go.Proofs.Ytjicfkmpgogppaa.Words Go.Proofs.Ytjicfkmpgogppaa.Vr Go.Proofs.Ytjicfkmpgogppaa.Vs Go.Proofs.Ytjicfkmpgogppaa.PO Go.Proofs.YtjicfkmpgogppaaW.PrintWords Go.Proofs.YtjicfkmpgogppaaW.PrintLast Go.Proofs.YtjicfkmpgogppaaW.PrintMore
abbrev mkW (a b : Int) (c : ByteArray) (l : List W) : W := ⟨a, b, c, l⟩
abbrev noW : W := ⟨0, 0, ⟨#[]⟩, []⟩
abbrev mkV (a b : Int) (c : ByteArray) (l : List V) : V := ⟨a, b, c, l⟩
abbrev noV : V := ⟨0, 0, ⟨#[]⟩, []⟩
/-- a number's first byte -/
theorem gets_top (s : ByteArray) (a : Int) : ∀ m : Nat, gets s a (m + 1) / 256 ^ m = bt s a
  | 0 => by simp [gets]
  | m + 1 => by
    have ih := gets_top s a m
    have hb := bt_range s (a + (m + 1 : Nat))
    rw [gets, Int.pow_succ, Int.mul_comm (256 ^ m) 256, ← Int.ediv_ediv_of_nonneg (by decide : (0 : Int) ≤ 256)]
    rw [show (gets s a (m + 1) * 256 + bt s (a + (m + 1 : Nat))) / 256 = gets s a (m + 1) by omega]
    exact ih
theorem gbounds (s : ByteArray) (a w : Int) (h : (getR s a w).2.2 = 0) : 0 ≤ (getR s a w).1 ∧ (getR s a w).1 < 18446744073709551616 ∧ 0 ≤ a ∧ 1 ≤ w ∧ w ≤ 8 ∧ a + w ≤ s.size ∧ (getR s a w).2.1 = a + w ∧ (getR s a w).1 = gets s a w.toNat := by
  unfold getR at h ⊢
  split
  · rename_i h1; rw [if_pos h1] at h; simp at h
  · rename_i h1
    split
    · rename_i h2; rw [if_neg h1, if_pos h2] at h; simp at h
    · rename_i h2
      have b := gets_lt s a w.toNat
      refine ⟨b.1, ?_, by omega, by omega, by omega, by omega, rfl, rfl⟩
      have : (256 : Int) ^ w.toNat ≤ 256 ^ 8 := by
        rcases (by omega : w.toNat = 0 ∨ w.toNat = 1 ∨ w.toNat = 2 ∨ w.toNat = 3 ∨ w.toNat = 4 ∨ w.toNat = 5 ∨ w.toNat = 6 ∨ w.toNat = 7 ∨ w.toNat = 8) with h | h | h | h | h | h | h | h | h <;> rw [h] <;> decide
      have e8 : (256 : Int) ^ 8 = 18446744073709551616 := by decide
      simp only
      omega
/-- the width's first byte is nought just where the number shifted is -/
theorem top_zero {s : ByteArray} {q w : Int} (h : (getR s q w).2.2 = 0) : (getR s q w).1 / 2 ^ (8 * (w - 1)).toNat = bt s q := by
  have b := gbounds s q w h
  rw [b.2.2.2.2.2.2.2]
  obtain ⟨m, hm⟩ : ∃ m : Nat, w = m + 1 := ⟨(w - 1).toNat, by omega⟩
  rw [show w.toNat = m + 1 by omega, show (8 * (w - 1)) = 8 * (m : Int) by omega, pow8]
  exact gets_top s q m
theorem valR_place {α : Type} {mk : Int → Int → ByteArray → List α → α} {no : α} (s : ByteArray) : ∀ (k : Nat) (i d : Int) r, 0 ≤ i → i ≤ s.size → valR mk no k s i d = some r → (r.1 = 0 → 0 ≤ r.2.2 ∧ r.2.2 ≤ s.size) ∧ (r.1 ≠ 0 → r.2 = (no, 0)) := by
  intro k
  induction k with
  | zero => intro i d r _ _ h; simp [valR] at h
  | succ k ih =>
    intro i d r h0 h1 h
    have hl : ∀ (f : Int → Option (Int × α × Int)) (_ : ∀ (q : Int) r, 0 ≤ q → q ≤ s.size → f q = some r → r.1 = 0 → 0 ≤ r.2.2 ∧ r.2.2 ≤ s.size) (n : Nat) (q : Int) (r : Int × List α × Int), 0 ≤ q → q ≤ s.size → listR f n q = some r → r.1 = 0 → 0 ≤ r.2.2 ∧ r.2.2 ≤ s.size := by
      intro f hf n
      induction n with
      | zero => intro q r q0 q1 h _; simp only [listR, Option.some.injEq] at h; subst h; exact ⟨q0, q1⟩
      | succ n ihn =>
        intro q r q0 q1 h he
        simp only [listR] at h
        obtain ⟨⟨e, x, p⟩, hx, h⟩ := Option.bind_eq_some_iff.mp h
        dsimp only at h
        by_cases c : e = 0
        · rw [if_pos c] at h
          obtain ⟨⟨e2, l2, p2⟩, hy, h⟩ := Option.bind_eq_some_iff.mp h
          simp only [Option.some.injEq] at h; subst h
          have b := hf q _ q0 q1 hx c
          exact ihn p (e2, l2, p2) b.1 b.2 hy he
        · rw [if_neg c] at h
          simp only [Option.some.injEq] at h; subst h; exact absurd he c
    simp only [valR] at h
    by_cases c1 : (getR s i 1).2.2 = 0
    · rw [if_pos c1] at h
      have b1 := gbounds s i 1 c1
      by_cases k1 : (getR s i 1).1 = 1
      · rw [if_pos k1] at h
        by_cases c2 : (intR s (getR s i 1).2.1).1 = 0
        · rw [if_pos c2] at h
          simp only [Option.some.injEq] at h; subst h
          refine ⟨fun _ => ?_, fun he => absurd rfl he⟩
          unfold intR at c2 ⊢
          by_cases d1 : (getR s (getR s i 1).2.1 1).2.2 = 0
          · have b2 := gbounds s _ 1 d1
            rw [if_pos d1] at c2 ⊢
            by_cases d2 : (getR s (getR s i 1).2.1 1).1 > 8
            · rw [if_pos d2] at c2; simp at c2
            rw [if_neg d2] at c2 ⊢
            by_cases d3 : (getR s (getR s i 1).2.1 1).1 = 0
            · rw [if_pos d3]; show 0 ≤ (getR s (getR s i 1).2.1 1).2.1 ∧ (getR s (getR s i 1).2.1 1).2.1 ≤ s.size; omega
            rw [if_neg d3] at c2 ⊢
            by_cases d4 : (getR s (getR s (getR s i 1).2.1 1).2.1 (getR s (getR s i 1).2.1 1).1).2.2 = 0
            · rw [if_pos d4] at c2 ⊢
              have b3 := gbounds s _ _ d4
              by_cases d5 : (getR s (getR s (getR s i 1).2.1 1).2.1 (getR s (getR s i 1).2.1 1).1).1 / 2 ^ (8 * ((getR s (getR s i 1).2.1 1).1 - 1)).toNat = 0
              · rw [if_pos d5] at c2; simp at c2
              rw [if_neg d5]
              show 0 ≤ (getR s (getR s (getR s i 1).2.1 1).2.1 (getR s (getR s i 1).2.1 1).1).2.1 ∧ (getR s (getR s (getR s i 1).2.1 1).2.1 (getR s (getR s i 1).2.1 1).1).2.1 ≤ s.size
              omega
            · rw [if_neg d4] at c2; exact absurd c2 d4
          · rw [if_neg d1] at c2; exact absurd c2 d1
        · rw [if_neg c2] at h
          simp only [Option.some.injEq] at h; subst h
          exact ⟨fun he => absurd he c2, fun _ => rfl⟩
      rw [if_neg k1] at h
      by_cases k2 : (getR s i 1).1 = 2
      · rw [if_pos k2] at h
        by_cases c2 : (gtextR s (getR s i 1).2.1).2.2 = 0
        · rw [if_pos c2] at h
          by_cases c3 : ((gtextR s (getR s i 1).2.1).1.size : Int) > 4096
          · rw [if_pos c3] at h
            simp only [Option.some.injEq] at h; subst h
            exact ⟨fun he => by simp at he, fun _ => rfl⟩
          · rw [if_neg c3] at h
            simp only [Option.some.injEq] at h; subst h
            refine ⟨fun _ => ?_, fun he => absurd rfl he⟩
            unfold gtextR at c2 ⊢
            by_cases d1 : (getR s (getR s i 1).2.1 2).2.2 = 0
            · rw [if_pos d1] at c2 ⊢
              have b2 := gbounds s _ 2 d1
              by_cases d2 : (s.size : Int) - (getR s (getR s i 1).2.1 2).2.1 < (getR s (getR s i 1).2.1 2).1
              · rw [if_pos d2] at c2; simp at c2
              rw [if_neg d2]
              show 0 ≤ (getR s (getR s i 1).2.1 2).2.1 + (getR s (getR s i 1).2.1 2).1 ∧ (getR s (getR s i 1).2.1 2).2.1 + (getR s (getR s i 1).2.1 2).1 ≤ s.size
              omega
            · rw [if_neg d1] at c2; exact absurd c2 d1
        · rw [if_neg c2] at h
          simp only [Option.some.injEq] at h; subst h
          exact ⟨fun he => absurd he c2, fun _ => rfl⟩
      rw [if_neg k2] at h
      by_cases k3 : (getR s i 1).1 = 3
      · rw [if_pos k3] at h
        by_cases c2 : d ≥ 8
        · rw [if_pos c2] at h
          simp only [Option.some.injEq] at h; subst h
          exact ⟨fun he => by simp at he, fun _ => rfl⟩
        rw [if_neg c2] at h
        by_cases c3 : (getR s (getR s i 1).2.1 2).2.2 = 0
        · rw [if_pos c3] at h
          have b2 := gbounds s _ 2 c3
          by_cases c4 : (getR s (getR s i 1).2.1 2).1 > 256
          · rw [if_pos c4] at h
            simp only [Option.some.injEq] at h; subst h
            exact ⟨fun he => by simp at he, fun _ => rfl⟩
          rw [if_neg c4] at h
          obtain ⟨⟨e, l, q⟩, hx, h⟩ := Option.bind_eq_some_iff.mp h
          dsimp only at h
          by_cases c5 : e = 0
          · rw [if_pos c5] at h
            simp only [Option.some.injEq] at h; subst h
            exact ⟨fun _ => hl _ (fun q r q0 q1 hq he => (ih q (d + 1) r q0 q1 hq).1 he) _ _ _ (by omega) (by omega) hx c5, fun he => absurd rfl he⟩
          · rw [if_neg c5] at h
            simp only [Option.some.injEq] at h; subst h
            exact ⟨fun he => absurd he c5, fun _ => rfl⟩
        · rw [if_neg c3] at h
          simp only [Option.some.injEq] at h; subst h
          exact ⟨fun he => absurd he c3, fun _ => rfl⟩
      rw [if_neg k3] at h
      simp only [Option.some.injEq] at h; subst h
      exact ⟨fun he => by simp at he, fun _ => rfl⟩
    · rw [if_neg c1] at h
      simp only [Option.some.injEq] at h; subst h
      exact ⟨fun he => absurd he c1, fun _ => rfl⟩
/-- the plain reader always answers, when it may go so deep -/
theorem valR_total {α : Type} (mk : Int → Int → ByteArray → List α → α) (no : α) (s : ByteArray) : ∀ (k : Nat) (i d : Int), 0 ≤ d → d ≤ 8 → 8 - d < k → ∃ r, valR mk no k s i d = some r
  | 0, i, d, h0, h8, h => by
    omega
  | k + 1, i, d, h0, h8, h => by
    have hl : ∀ (f : Int → Option (Int × α × Int)) (_ : ∀ q, ∃ r, f q = some r) (n : Nat) (q : Int), ∃ r, listR f n q = some r := by
      intro f hf n
      induction n with
      | zero => exact fun q => ⟨_, rfl⟩
      | succ n ihn =>
        intro q
        obtain ⟨r, hr⟩ := hf q
        obtain ⟨r2, hr2⟩ := ihn r.2.2
        simp only [listR, hr, Option.bind_some, hr2]
        by_cases c : r.1 = 0
        · exact ⟨_, if_pos c⟩
        · exact ⟨_, if_neg c⟩
    simp only [valR]
    repeat' (first | exact ⟨_, rfl⟩ | split)
    rename_i hd _ _
    obtain ⟨r, hr⟩ := hl (fun q => valR mk no k s q (d + 1)) (fun q => valR_total mk no s k q (d + 1) (by omega) (by omega) (by omega)) (getR s (getR s i 1).2.1 2).1.toNat (getR s (getR s i 1).2.1 2).2.1
    rw [hr, Option.bind_some]
    by_cases c : r.1 = 0
    · exact ⟨_, if_pos c⟩
    · exact ⟨_, if_neg c⟩
/-- both readers go alike -/
theorem listR_to (f : Int → Option (Int × V × Int)) (g : Int → Option (Int × W × Int)) (h : ∀ q, g q = (f q).map (fun r => (r.1, toW r.2.1, r.2.2))) : ∀ (n : Nat) (q : Int), listR g n q = (listR f n q).map (fun r => (r.1, toWs r.2.1, r.2.2))
  | 0, q => rfl
  | n + 1, q => by
    simp only [listR, h q]
    cases hq : f q with
    | none => rfl
    | some r =>
      simp only [Option.map_some, Option.bind_some]
      by_cases c : r.1 = 0
      · rw [if_pos c, if_pos c, listR_to f g h n r.2.2]
        cases listR f n r.2.2 with
        | none => rfl
        | some x => rfl
      · rw [if_neg c, if_neg c]; rfl
theorem valR_to (s : ByteArray) : ∀ (k : Nat) (i d : Int), valR mkW noW k s i d = (valR mkV noV k s i d).map (fun r => (r.1, toW r.2.1, r.2.2))
  | 0, _, _ => rfl
  | k + 1, i, d => by
    simp only [valR]
    repeat' (first | rfl | split)
    rw [listR_to (fun q => valR mkV noV k s q (d + 1)) (fun q => valR mkW noW k s q (d + 1)) (fun q => valR_to s k q (d + 1))]
    cases listR (fun q => valR mkV noV k s q (d + 1)) (getR s (getR s i 1).2.1 2).1.toNat (getR s (getR s i 1).2.1 2).2.1 with
    | none => rfl
    | some x =>
      simp only [Option.map_some, Option.bind_some]
      by_cases c : x.1 = 0
      · rw [if_pos c, if_pos c]; rfl
      · rw [if_neg c, if_neg c]; rfl
/-- what is read has short lists -/
theorem listR_small (f : Int → Option (Int × V × Int)) (h : ∀ q r, f q = some r → Small r.2.1) : ∀ (n : Nat) (q : Int) r, listR f n q = some r → r.2.1.length ≤ n ∧ ∀ x ∈ r.2.1, Small x
  | 0, q, r, e => by
    simp only [listR, Option.some.injEq] at e; subst e; simp
  | n + 1, q, r, e => by
    simp only [listR] at e
    obtain ⟨⟨e1, x, p⟩, hx, e⟩ := Option.bind_eq_some_iff.mp e
    dsimp only at e
    by_cases c : e1 = 0
    · rw [if_pos c] at e
      obtain ⟨y, hy, e⟩ := Option.bind_eq_some_iff.mp e
      simp only [Option.some.injEq] at e; subst e
      have ih := listR_small f h n p y hy
      have hs := h q _ hx
      refine ⟨by simp only [List.length_cons]; omega, fun z hz => ?_⟩
      rcases List.mem_cons.mp hz with rfl | hz
      · exact hs
      · exact ih.2 z hz
    · rw [if_neg c] at e
      simp only [Option.some.injEq] at e; subst e; simp
theorem small_no : Small noV := by rw [Small_eq]; simp
theorem valR_small (s : ByteArray) : ∀ (k : Nat) (i d : Int) r, valR mkV noV k s i d = some r → Small r.2.1
  | 0, _, _, r, e => by simp [valR] at e
  | k + 1, i, d, r, e => by
    simp only [valR] at e
    repeat' (split at e)
    all_goals first
      | (simp only [Option.some.injEq] at e; subst e; first | exact small_no | (rw [Small_eq]; simp))
      | skip
    obtain ⟨y, hy, e⟩ := Option.bind_eq_some_iff.mp e
    rename_i hc
    have ih := listR_small (fun q => valR mkV noV k s q (d + 1)) (fun q r hr => valR_small s k q (d + 1) r hr) _ _ _ hy
    by_cases c : y.1 = 0
    · rw [if_pos c] at e
      simp only [Option.some.injEq] at e; subst e
      rw [Small_eq]
      exact ⟨by show y.2.1.length ≤ 1000; omega, ih.2⟩
    · rw [if_neg c] at e
      simp only [Option.some.injEq] at e; subst e; exact small_no
end Go.Proofs.Ytjicfkmpgogppaa.Rr
