/-
  What is wrong with a workflow, and which nodes wait for which: plain.
-/
import Derived.Test.YtjicfkmpgogppaaWarsh
import Derived.Test.YtjicfkmpgogppaaFind
import Derived.Test.YtjicfkmpgogppaaNamed
namespace Go.Proofs.Ytjicfkmpgogppaa.Gr
set_option linter.unusedVariables false
set_option linter.unusedSimpArgs false
open Go Go.RowKit Go.Proofs.Ytjicfkmpgogppaa.Plain Go.Proofs.Ytjicfkmpgogppaa.PG Go.Proofs.YtjicfkmpgogppaaW.PrintWords Go.Proofs.YtjicfkmpgogppaaW.PrintLast Go.Proofs.YtjicfkmpgogppaaW.PrintMore
abbrev A_ := S48
abbrev B_ := S125
def cB (x : A_) : B_ := ⟨x.f0, x.f1, x.f2, x.f3, x.f4, x.f5⟩
abbrev nd (l : List A_) (i : Nat) : A_ := l.getD i z48
abbrev fd (l : List A_) (s : ByteArray) : Int := Fi.findN l s 0
theorem find_spec (s : ByteArray) : ∀ (l : List A_) (i : Int), (Fi.findN l s i = -1 ∧ ∀ j, j < l.length → (nd l j).f0.toList ≠ s.toList) ∨ ∃ j, j < l.length ∧ Fi.findN l s i = i + (j : Int) ∧ (nd l j).f0.toList = s.toList ∧ ∀ m, m < j → (nd l m).f0.toList ≠ s.toList
  | [], i => .inl ⟨rfl, fun j h => absurd h (Nat.not_lt_zero _)⟩
  | x :: l, i => by
    unfold Fi.findN
    by_cases h : x.f0.toList = s.toList
    · rw [if_pos h]
      exact .inr ⟨0, by simp, by simp, by simpa [nd] using h, fun m hm => absurd hm (Nat.not_lt_zero _)⟩
    · rw [if_neg h]
      rcases find_spec s l (i + 1) with ⟨h1, h2⟩ | ⟨j, h1, h2, h3, h4⟩
      · refine .inl ⟨h1, fun j hj => ?_⟩
        cases j with
        | zero => simpa [nd] using h
        | succ j => have := h2 j (by simp at hj; omega); simpa [nd] using this
      · refine .inr ⟨j + 1, by simp; omega, by rw [h2]; push_cast; omega, by simpa [nd] using h3, fun m hm => ?_⟩
        cases m with
        | zero => simpa [nd] using h
        | succ m => have := h4 m (by omega); simpa [nd] using this
theorem fd_le (l : List A_) (i : Nat) (h : i < l.length) : 0 ≤ fd l (nd l i).f0 ∧ fd l (nd l i).f0 ≤ i := by
  rcases find_spec (nd l i).f0 l 0 with ⟨_, h2⟩ | ⟨j, h1, h2, _, h4⟩
  · exact absurd rfl (h2 i h)
  · show 0 ≤ Fi.findN l (nd l i).f0 0 ∧ Fi.findN l (nd l i).f0 0 ≤ i
    rw [h2]
    refine ⟨by omega, ?_⟩
    rcases Nat.lt_or_ge i j with c | c
    · exact absurd rfl (h4 i c)
    · omega
/-- names are each a node's alone -/
def Uniq (l : List A_) : Prop := ∀ i, i < l.length → fd l (nd l i).f0 = (i : Int)
theorem fd_iff {l : List A_} (hu : Uniq l) (s : ByteArray) (k : Nat) (hk : k < l.length) : fd l s = (k : Int) ↔ s.toList = (nd l k).f0.toList := by
  constructor
  · intro h
    rcases find_spec s l 0 with ⟨h1, _⟩ | ⟨j, _, h2, h3, _⟩
    · have e : (-1 : Int) = (k : Int) := h1.symm.trans h
      omega
    · have e : 0 + (j : Int) = (k : Int) := h2.symm.trans h
      obtain rfl : j = k := by omega
      exact h3.symm
  · intro h
    have e := hu k hk
    rw [← e]
    have key : ∀ (l : List A_) (i : Int) (a b : ByteArray), a.toList = b.toList → Fi.findN l a i = Fi.findN l b i := by
      intro l
      induction l with
      | nil => intros; rfl
      | cons x l ih => intro i a b hab; unfold Fi.findN; rw [hab, ih _ _ _ hab]
    exact key l 0 _ _ h
/-- does the i-th node wait for the k-th? -/
def adj (l : List A_) (i k : Nat) : Bool := (nd l i).f1.any fun d => d.toList == (nd l k).f0.toList
/-- the nodes that a node waits for, as bits -/
def mk (l : List A_) (ds : List ByteArray) (m : Nat) : Nat := ds.foldl (fun m d => if 0 ≤ fd l d then m ||| 2 ^ (fd l d).toNat else m) m
theorem mk_bit (l : List A_) (k : Nat) : ∀ (ds : List ByteArray) (m : Nat), (mk l ds m).testBit k = (m.testBit k || ds.any fun d => decide (fd l d = (k : Int)))
  | [], m => by simp [mk]
  | d :: ds, m => by
    have e : mk l (d :: ds) m = mk l ds (if 0 ≤ fd l d then m ||| 2 ^ (fd l d).toNat else m) := rfl
    rw [e, mk_bit l k ds]
    simp only [List.any_cons, ← Bool.or_assoc]
    congr 1
    by_cases h : 0 ≤ fd l d
    · rw [if_pos h, Nat.testBit_or, Nat.testBit_two_pow]
      congr 1
      by_cases h2 : fd l d = (k : Int)
      · rw [decide_eq_true h2, decide_eq_true (by omega)]
      · rw [decide_eq_false h2, decide_eq_false (by omega)]
    · rw [if_neg h, decide_eq_false (by omega), Bool.or_false]
theorem mk_lt (l : List A_) : ∀ (ds : List ByteArray) (m : Nat), m < 2 ^ l.length → mk l ds m < 2 ^ l.length
  | [], m, h => h
  | d :: ds, m, h => by
    have e : mk l (d :: ds) m = mk l ds (if 0 ≤ fd l d then m ||| 2 ^ (fd l d).toNat else m) := rfl
    rw [e]
    refine mk_lt l ds _ ?_
    split
    · rename_i h0
      refine Nat.or_lt_two_pow h ?_
      refine Nat.pow_lt_pow_right (by decide) ?_
      rcases find_spec d l 0 with ⟨h1, _⟩ | ⟨j, h1, h2, _⟩
      · have : fd l d = -1 := h1
        omega
      · have : fd l d = 0 + (j : Int) := h2
        omega
    · exact h
theorem mk_adj {l : List A_} (hu : Uniq l) (i k : Nat) (hk : k < l.length) : (mk l (nd l i).f1 0).testBit k = adj l i k := by
  rw [mk_bit, Nat.zero_testBit, Bool.false_or]
  unfold adj
  congr 1
  funext d
  rw [Bool.eq_iff_iff, decide_eq_true_iff, beq_iff_eq]
  exact fd_iff hu d k hk
/-- the first number with an error -/
def scan (e : Nat → Int) : Nat → Nat → Option (Nat × Int)
  | 0, _ => none
  | d + 1, i => if e i = 0 then scan e d (i + 1) else some (i, e i)
theorem scan_none {e : Nat → Int} : ∀ (d i : Nat), scan e d i = none → ∀ j, i ≤ j → j < i + d → e j = 0
  | 0, i, _, j, h1, h2 => by omega
  | d + 1, i, h, j, h1, h2 => by
    unfold scan at h
    split at h
    · rename_i h0
      by_cases c : j = i
      · rw [c]; exact h0
      · exact scan_none d (i + 1) h j (by omega) (by omega)
    · cases h
def orElse (r : Option (Nat × Int)) (e : Int × Int) : Int × Int := match r with
  | some (i, x) => ((i : Int), x)
  | none => e
def nodeErr (x : A_) : Int := if x.f2 < 1 ∨ x.f2 > 4 ∨ x.f3 < 1 ∨ x.f3 > 1048576 ∨ x.f4 < -1 ∨ x.f4 ≥ 8 ∨ x.f1.length > 12 then 31 else if x.f4 = -1 then (if x.f5.toList = [] then 0 else 31) else (if Nm.named x.f5 = true ∧ x.f2 = 1 then 0 else 31)
def e1 (l : List A_) (i : Nat) : Int := if Nm.named (nd l i).f0 = true ∧ ¬ fd l (nd l i).f0 < (i : Int) then nodeErr (nd l i) else 30
/-- true of all numbers from k on, d of them -/
def okF (f : Nat → Bool) : Nat → Nat → Bool
  | 0, _ => true
  | d + 1, k => f k && okF f d (k + 1)
theorem okF_iff {f : Nat → Bool} : ∀ (d k : Nat), okF f d k = true ↔ ∀ m, k ≤ m → m < k + d → f m = true
  | 0, k => ⟨fun _ m h1 h2 => by omega, fun _ => rfl⟩
  | d + 1, k => by
    unfold okF
    rw [Bool.and_eq_true, okF_iff d (k + 1)]
    constructor
    · rintro ⟨h0, h⟩ m h1 h2
      by_cases c : m = k
      · rw [c]; exact h0
      · exact h m (by omega) (by omega)
    · intro h
      exact ⟨h k (Nat.le_refl _) (by omega), fun m h1 h2 => h m (by omega) (by omega)⟩
abbrev dep (ds : List ByteArray) (k : Nat) : ByteArray := ds.getD k ByteArray.empty
def depOk (l : List A_) (ds : List ByteArray) (k : Nat) : Bool := decide (0 ≤ fd l (dep ds k)) && okF (fun m => (dep ds m).toList != (dep ds k).toList) k 0
def depsOk (l : List A_) (ds : List ByteArray) : Bool := okF (depOk l ds) ds.length 0
def e2 (l : List A_) (i : Nat) : Int := if depsOk l (nd l i).f1 = true then 0 else 32
def e3 (l : List A_) (i : Nat) : Int := if P (adj l) l.length i i = true then 33 else 0
/-- what is wrong with a workflow, and at which node -/
def chk (nm : ByteArray) (l : List A_) : Int × Int := if Nm.named nm = true then (if (l.length : Int) < 1 then (-1, 31) else if (l.length : Int) > 12 then (-1, 31) else orElse (scan (e1 l) l.length 0) (orElse (scan (e2 l) l.length 0) (orElse (scan (e3 l) l.length 0) (0, 0)))) else (-1, 30)
theorem e1_uniq {l : List A_} (h : scan (e1 l) l.length 0 = none) : Uniq l := by
  intro i hi
  have e := scan_none _ _ h i (Nat.zero_le _) (by omega)
  have hl := fd_le l i hi
  unfold e1 at e
  split at e
  · rename_i h2
    have := h2.2
    omega
  · exact absurd e (by decide)
end Go.Proofs.Ytjicfkmpgogppaa.Gr
