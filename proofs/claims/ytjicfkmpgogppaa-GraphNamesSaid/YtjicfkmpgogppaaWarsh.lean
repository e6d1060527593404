/-
  Ways over a relation: the closure by rows (P), and the set that grows by passes.
-/
import Derived.Test.YtjicfkmpgogppaaPlain
namespace Go.Proofs.Ytjicfkmpgogppaa.Gr
set_option linter.unusedVariables false
set_option linter.unusedSimpArgs false
section
variable {w : Nat → Nat → Bool}
/-- a way from i to j over nodes below k -/
def P (w : Nat → Nat → Bool) : Nat → Nat → Nat → Bool
  | 0, i, j => w i j
  | k + 1, i, j => P w k i j || (P w k i k && P w k k j)
theorem P_succ (k i j : Nat) : P w (k + 1) i j = (P w k i j || (P w k i k && P w k k j)) := rfl
theorem P_row (k j : Nat) : P w (k + 1) k j = P w k k j := by
  rw [P_succ]
  cases P w k k j <;> simp
theorem P_col (k i : Nat) : P w (k + 1) i k = P w k i k := by
  rw [P_succ]
  cases P w k i k <;> simp
theorem P_mono {k i j : Nat} (h : P w k i j = true) : P w (k + 1) i j = true := by rw [P_succ, h]; rfl
theorem P_le {k k' i j : Nat} (hk : k ≤ k') (h : P w k i j = true) : P w k' i j = true := by
  induction hk with
  | refl => exact h
  | step _ ih => exact P_mono ih
theorem P_trans : ∀ (k i j l : Nat), j < k → P w k i j = true → P w k j l = true → P w k i l = true
  | 0, _, _, _, h, _, _ => absurd h (Nat.not_lt_zero _)
  | k + 1, i, j, l, h, h1, h2 => by
    have hk : ∀ {x y : Nat}, P w k x k = true → P w k k y = true → P w (k + 1) x y = true := fun a b => by rw [P_succ, a, b]; simp
    rcases Nat.lt_or_ge j k with hj | hj
    · rw [P_succ, Bool.or_eq_true, Bool.and_eq_true] at h1 h2
      rcases h1 with a | ⟨a, b⟩ <;> rcases h2 with c | ⟨c, d⟩
      · exact P_mono (P_trans k i j l hj a c)
      · exact hk (P_trans k i j k hj a c) d
      · exact hk a (P_trans k k j l hj b c)
      · exact hk a d
    · obtain rfl : j = k := by omega
      rw [P_col] at h1
      rw [P_row] at h2
      exact hk h1 h2
/-- a way whose inner nodes are below n -/
inductive Tr (w : Nat → Nat → Bool) (n : Nat) : Nat → Nat → Prop
  | one {i j : Nat} : w i j = true → Tr w n i j
  | cons {i j l : Nat} : w i j = true → j < n → Tr w n j l → Tr w n i l
theorem Tr.trans {n i j l : Nat} (h : Tr w n i j) (hj : j < n) (k : Tr w n j l) : Tr w n i l := by
  induction h with
  | one a => exact .cons a hj k
  | cons a b _ ih => exact .cons a b (ih hj k)
theorem P_tr {n : Nat} : ∀ (k i j : Nat), k ≤ n → P w k i j = true → Tr w n i j
  | 0, _, _, _, h => .one h
  | k + 1, i, j, hk, h => by
    rw [P_succ, Bool.or_eq_true, Bool.and_eq_true] at h
    rcases h with a | ⟨a, b⟩
    · exact P_tr k i j (by omega) a
    · exact (P_tr k i k (by omega) a).trans (by omega) (P_tr k k j (by omega) b)
theorem tr_P {n i j : Nat} (h : Tr w n i j) : P w n i j = true := by
  induction h with
  | one a => exact P_le (Nat.zero_le _) a
  | cons a b _ ih => exact P_trans n _ _ _ b (P_le (Nat.zero_le _) a) ih
/-- a set of nodes that can be gone to no further -/
def Shut (w : Nat → Nat → Bool) (n i : Nat) (r : List Bool) : Prop := ∀ a b, a < n → b < n → w a b = true → r.getD b false = true → r.getD a false = true ∧ a ≠ i
theorem shut_not {n i : Nat} {r : List Bool} (hs : Shut w n i r) (hi : i < n) (hr : r.getD i false = true) : ¬ Tr w n i i := by
  have key : ∀ a l, Tr w n a l → l = i → a < n → r.getD a false = true ∧ a ≠ i := by
    intro a l h
    induction h with
    | one x => rintro rfl ha; exact hs _ _ ha hi x hr
    | cons x y _ ih => rintro rfl ha; exact hs _ _ ha y x (ih rfl y).1
  exact fun h => (key i i h rfl hi).2 rfl
theorem P_shut {n i : Nat} {r : List Bool} (hs : Shut w n i r) (hi : i < n) (hr : r.getD i false = true) : P w n i i = false := by
  cases h : P w n i i with
  | false => rfl
  | true => exact absurd (P_tr n i i (Nat.le_refl _) h) (shut_not hs hi hr)
/-- the set holds only nodes with a way to i -/
def Good (w : Nat → Nat → Bool) (n i : Nat) (r : List Bool) : Prop := r.length = n ∧ r.getD i false = true ∧ ∀ a, a < n → r.getD a false = true → a = i ∨ Tr w n a i
def Sub (r s : List Bool) : Prop := ∀ a, r.getD a false = true → s.getD a false = true
def cnt (r : List Bool) : Nat := r.countP id
theorem cnt_le (r : List Bool) : cnt r ≤ r.length := List.countP_le_length
theorem sub_cons {a b : Bool} {r s : List Bool} (h : Sub (a :: r) (b :: s)) : (a = true → b = true) ∧ Sub r s := ⟨fun e => by have := h 0 (by simpa using e); simpa using this, fun j e => by have := h (j + 1) (by simpa using e); simpa using this⟩
theorem cnt_sub : ∀ {r s : List Bool}, r.length = s.length → Sub r s → cnt r ≤ cnt s ∧ (cnt r = cnt s → r = s)
  | [], [], _, _ => ⟨Nat.le_refl _, fun _ => rfl⟩
  | a :: r, b :: s, hl, h => by
    obtain ⟨h1, h2⟩ := sub_cons h
    obtain ⟨i1, i2⟩ := cnt_sub (Nat.succ.inj hl) h2
    unfold cnt at i1 i2 ⊢
    simp only [List.countP_cons, id]
    cases a <;> cases b
    · simp only [Bool.false_eq_true, if_false]; exact ⟨by omega, fun e => by rw [i2 (by omega)]⟩
    · simp only [Bool.false_eq_true, if_false, if_true]; exact ⟨by omega, fun e => by omega⟩
    · exact absurd (h1 rfl) (by decide)
    · simp only [if_true]; exact ⟨by omega, fun e => by rw [i2 (by omega)]⟩
  | [], _ :: _, hl, _ => by simp at hl
  | _ :: _, [], hl, _ => by simp at hl
/-- what a pass makes of a set -/
structure Pass (w : Nat → Nat → Bool) (n i : Nat) (r s : List Bool) : Prop where
  good : Good w n i s
  sub : Sub r s
  all : ∀ a b, a < n → b < n → w a b = true → r.getD b false = true → s.getD a false = true ∧ a ≠ i
/-- after m passes: the sets were shut, or have grown -/
def Grown (w : Nat → Nat → Bool) (n i m : Nat) (r : List Bool) : Prop := (∃ s, Shut w n i s ∧ s.getD i false = true) ∨ m + 1 ≤ cnt r
theorem grown_step {n i m : Nat} {r s : List Bool} (hg : Good w n i r) (h : Grown w n i m r) (p : Pass w n i r s) : Grown w n i (m + 1) s := by
  rcases h with h | h
  · exact .inl h
  · obtain ⟨c1, c2⟩ := cnt_sub (hg.1.trans p.good.1.symm) p.sub
    by_cases e : cnt r = cnt s
    · obtain rfl := c2 e
      exact .inl ⟨r, p.all, hg.2.1⟩
    · exact .inr (by omega)
theorem grown_end {n i : Nat} {r : List Bool} (hi : i < n) (hg : Good w n i r) (h : Grown w n i n r) : P w n i i = false := by
  rcases h with ⟨s, h1, h2⟩ | h
  · exact P_shut h1 hi h2
  · have := cnt_le r
    have := hg.1
    omega
end
end Go.Proofs.Ytjicfkmpgogppaa.Gr
