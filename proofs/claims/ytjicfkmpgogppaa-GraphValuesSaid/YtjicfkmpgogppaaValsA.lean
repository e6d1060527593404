/-
  Values of the program and of the document: one made out of the other.
-/
import Derived.Test.YtjicfkmpgogppaaPGx0
import Derived.Test.YtjicfkmpgogppaaPlain
namespace Go.Proofs.Ytjicfkmpgogppaa.Vs
set_option linter.unusedVariables false
set_option linter.unusedSimpArgs false
open Go Go.RowKit Go.Proofs.Ytjicfkmpgogppaa.Plain Go.Proofs.Ytjicfkmpgogppaa.PG Go.Proofs.YtjicfkmpgogppaaW.PrintWords Go.Proofs.YtjicfkmpgogppaaW.PrintLast Go.Proofs.YtjicfkmpgogppaaW.PrintMore
abbrev V := S54
abbrev W := S57
mutual
def toW : V → W
  | ⟨a, b, c, l⟩ => ⟨a, b, c, toWs l⟩
def toWs : List V → List W
  | [] => []
  | x :: l => toW x :: toWs l
end
theorem toWs_map : ∀ l, toWs l = l.map toW
  | [] => rfl
  | x :: l => by simp [toWs, toWs_map l]
theorem toW_0 : ∀ x : V, (toW x).f0 = x.f0
  | ⟨a, b, c, l⟩ => by simp [toW]
theorem toW_1 : ∀ x : V, (toW x).f1 = x.f1
  | ⟨a, b, c, l⟩ => by simp [toW]
theorem toW_2 : ∀ x : V, (toW x).f2 = x.f2
  | ⟨a, b, c, l⟩ => by simp [toW]
theorem toW_3 : ∀ x : V, (toW x).f3 = toWs x.f3
  | ⟨a, b, c, l⟩ => by simp [toW]
mutual
/-- no list of more than a thousand values -/
def Small : V → Prop
  | ⟨_, _, _, l⟩ => l.length ≤ 1000 ∧ Smalls l
def Smalls : List V → Prop
  | [] => True
  | x :: l => Small x ∧ Smalls l
end
theorem Smalls_iff : ∀ l, Smalls l ↔ ∀ x ∈ l, Small x
  | [] => by simp [Smalls]
  | x :: l => by simp [Smalls, Smalls_iff l]
theorem Small_eq : ∀ x : V, Small x ↔ x.f3.length ≤ 1000 ∧ ∀ y ∈ x.f3, Small y
  | ⟨a, b, c, l⟩ => by simp [Small, Smalls_iff]
theorem V_ind {P : V → Prop} (h : ∀ a b c l, (∀ x ∈ l, P x) → P ⟨a, b, c, l⟩) : ∀ x, P x
  | ⟨a, b, c, l⟩ => h a b c l (fun x _ => V_ind h x)
theorem up_le {β : Type} {f : Nat → Option β} (hm : ∀ k, LeO (f k) (f (k + 1))) {K K' : Nat} (h : K ≤ K') {r : β} (e : f K = some r) : f K' = some r := by
  induction K' with
  | zero => rw [Nat.le_zero.mp h] at e; exact e
  | succ m ih =>
    rcases Nat.lt_or_ge m K with h1 | h1
    · rw [show K = m + 1 by omega] at e; exact e
    · exact hm m _ (ih h1)
/-- one bound for all of a list -/
theorem up_all {α : Type} {Q : Nat → α → Prop} (hm : ∀ K K' x, K ≤ K' → Q K x → Q K' x) : ∀ l : List α, (∀ x ∈ l, ∃ K, Q K x) → ∃ K, ∀ x ∈ l, Q K x
  | [], _ => ⟨0, fun _ h => by cases h⟩
  | x :: l, h => by
    obtain ⟨K, hK⟩ := h x (by simp)
    obtain ⟨K2, hK2⟩ := up_all hm l (fun y hy => h y (by simp [hy]))
    refine ⟨max K K2, fun y hy => ?_⟩
    rcases List.mem_cons.mp hy with rfl | hy
    · exact hm _ _ _ (Nat.le_max_left _ _) hK
    · exact hm _ _ _ (Nat.le_max_right _ _) (hK2 y hy)
theorem rdV (l : List V) (i : Int) (h0 : 0 ≤ i) (h1 : i < l.length) : rd_T54 l i ∈ l ∧ rd_T57 (toWs l) i = toW (rd_T54 l i) := by
  have hi : i.toNat < l.length := by omega
  unfold rd_T54 rd_T57
  rw [toWs_map]
  simp only [List.getD_eq_getElem?_getD, List.getElem?_map, List.getElem?_eq_getElem hi, Option.map_some, Option.getD_some]
  exact ⟨List.getElem_mem hi, trivial⟩
end Go.Proofs.Ytjicfkmpgogppaa.Vs
