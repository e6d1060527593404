/-
  The document's Check and Masks come to what GrS says.
-/
import Derived.Test.YtjicfkmpgogppaaPGx10
import Derived.Test.YtjicfkmpgogppaaPGx11
import Derived.Test.YtjicfkmpgogppaaPGx12
import Derived.Test.YtjicfkmpgogppaaPGx13
import Derived.Test.YtjicfkmpgogppaaPGx14
import Derived.Test.YtjicfkmpgogppaaPGx15
import Derived.Test.YtjicfkmpgogppaaPGx16
import Derived.Test.YtjicfkmpgogppaaPGx19
import Derived.Test.YtjicfkmpgogppaaGrP
namespace Go.Proofs.Ytjicfkmpgogppaa.Gr
set_option linter.unusedVariables false
set_option linter.unusedSimpArgs false
open Go Go.RowKit Go.Proofs.Ytjicfkmpgogppaa.Plain Go.Proofs.Ytjicfkmpgogppaa.PG Go.Proofs.YtjicfkmpgogppaaW.PrintWords Go.Proofs.YtjicfkmpgogppaaW.PrintLast Go.Proofs.YtjicfkmpgogppaaW.PrintMore
theorem rnamed_l0 (s : ByteArray) (hs : s.size ≤ 16) (h0 : 1 ≤ s.size) : ∀ (d i : Nat), i + d = s.size → (∀ j : Nat, j < i → Nm.isL (bt s j) = true) → ∀ K, precinctref11_Named.l0 (K + d + 1) s i = some (Nm.named s)
  | 0, i, h, hp, K => by
    rw [precinctref11_Named.l0, if_neg (by omega), Nm.named_all s (fun j hj => hp j (by omega)), decide_eq_true ⟨h0, hs⟩]
  | d + 1, i, h, hp, K => by
    have e1 : wrap64 ((i : Int) + 1) = ((i + 1 : Nat) : Int) := by rw [w64 (by omega) (by omega)]; rfl
    have hstep : (hL : Nm.isL (bt s i) = true) → precinctref11_Named.l0 (K + d + 1) s ((i + 1 : Nat) : Int) = some (Nm.named s) := fun hL => rnamed_l0 s hs h0 d (i + 1) (by omega) (fun j hj => by
      by_cases c : j = i
      · rw [c]; exact hL
      · exact hp j (by omega)) K
    have hnot : (hL : Nm.isL (bt s i) = false) → Nm.named s = false := fun hL => Nm.named_not s i (by omega) hL
    rw [show K + (d + 1) + 1 = (K + d + 1) + 1 by omega, precinctref11_Named.l0, if_pos (by omega), if_pos (by omega), e1]
    generalize hb : bt s (i : Int) = b at hstep hnot
    unfold Nm.isL at hstep hnot
    by_cases c1 : b ≥ 97
    · rw [if_pos c1, if_pos (by omega)]
      by_cases c2 : b ≤ 122
      · rw [if_pos c2]
        exact hstep (decide_eq_true (by omega))
      · rw [if_neg c2, if_neg (by omega), hnot (decide_eq_false (by omega))]
    · rw [if_neg c1]
      by_cases c2 : b ≥ 48
      · rw [if_pos c2]
        by_cases c3 : b ≤ 57
        · rw [if_pos c3]
          exact hstep (decide_eq_true (by omega))
        · rw [if_neg c3, hnot (decide_eq_false (by omega))]
      · rw [if_neg c2, hnot (decide_eq_false (by omega))]
theorem rnamed_some (s : ByteArray) (K : Nat) : precinctref11_Named.f (K + 18) s = some (Nm.named s) := by
  have hf : ¬ (1 ≤ s.size ∧ s.size ≤ 16) → Nm.named s = false := fun h => by unfold Nm.named; rw [decide_eq_false h, Bool.false_and]
  unfold precinctref11_Named.f
  by_cases c1 : (s.size : Int) < 1
  · rw [if_pos c1, precinctref11_Named.j0, if_pos rfl, hf (by omega)]
  · rw [if_neg c1]
    by_cases c2 : (s.size : Int) > 16
    · rw [decide_eq_true c2, precinctref11_Named.j0, if_pos rfl, hf (by omega)]
    · rw [decide_eq_false c2, precinctref11_Named.j0, if_neg (by decide)]
      have := rnamed_l0 s (by omega) (by omega) s.size 0 (by omega) (fun j hj => absurd hj (Nat.not_lt_zero _)) (K + 16 - s.size)
      rw [show K + 16 - s.size + s.size + 1 = K + 17 by omega] at this
      exact this
theorem rdB (l : List A_) (i : Nat) (h : i < l.length) : rd_T125 (l.map cB) (i : Int) = cB (nd l i) := by
  unfold rd_T125
  rw [Int.toNat_natCast, List.getD_eq_getElem?_getD, List.getElem?_map, List.getElem?_eq_getElem h]
  unfold nd
  rw [List.getD_eq_getElem?_getD, List.getElem?_eq_getElem h]
  rfl
theorem find_drop (l : List A_) (s : ByteArray) (i : Nat) (h : i < l.length) : Fi.findN (l.drop i) s i = if (nd l i).f0.toList = s.toList then (i : Int) else Fi.findN (l.drop (i + 1)) s ((i : Int) + 1) := by
  have e : nd l i = l[i] := by unfold nd; rw [List.getD_eq_getElem?_getD, List.getElem?_eq_getElem h, Option.getD_some]
  rw [List.drop_eq_getElem_cons h, e]
  rfl
theorem rfind_l0 (l : List A_) (nm s : ByteArray) (hl : l.length ≤ 32) : ∀ (d i : Nat), i + d = l.length → ∀ K, precinctref12_Find.l0 (K + d + 1) s i nm (l.map cB) = some (Fi.findN (l.drop i) s i)
  | 0, i, h, K => by
    rw [precinctref12_Find.l0, List.length_map, if_neg (by omega), List.drop_eq_nil_of_le (by omega)]
    rfl
  | d + 1, i, h, K => by
    have e1 : wrap64 ((i : Int) + 1) = ((i + 1 : Nat) : Int) := by rw [w64 (by omega) (by omega)]; rfl
    rw [show K + (d + 1) + 1 = (K + d + 1) + 1 by omega, precinctref12_Find.l0, List.length_map, if_pos (by omega), if_pos (by omega), rdB l i (by omega), find_drop l s i (by omega)]
    show (if (nd l i).f0.toList = s.toList then some (i : Int) else _) = _
    split
    · rfl
    · rw [e1, rfind_l0 l nm s hl d (i + 1) (by omega) K]
      rfl
theorem rfind_some (l : List A_) (nm s : ByteArray) (hl : l.length ≤ 32) (K : Nat) : precinctref12_Find.f (K + l.length + 1) nm (l.map cB) s = some (fd l s) := by
  have := rfind_l0 l nm s hl l.length 0 (by omega) K
  rw [List.drop_zero] at this
  exact this
theorem rone_some (l : List A_) (nm : ByteArray) (hl : l.length ≤ 32) (i : Nat) (hi : i < l.length) (K : Nat) : precinctref12_one.f (K + l.length + 21) nm (l.map cB) i = some (e1 l i) := by
  have hfd := fd_le l i hi
  have hn := rnamed_some (nd l i).f0 (K + l.length + 3)
  have hf := rfind_some l nm (nd l i).f0 hl (K + 20)
  rw [show K + 20 + l.length + 1 = K + l.length + 21 by omega] at hf
  rw [show K + l.length + 3 + 18 = K + l.length + 21 by omega] at hn
  unfold precinctref12_one.f
  rw [List.length_map, if_pos (by omega), if_pos (by omega), rdB l i hi]
  show (precinctref11_Named.f (K + l.length + 21) (nd l i).f0).bind _ = _
  rw [hn, Option.bind_some]
  show (precinctref12_Find.f (K + l.length + 21) nm (l.map cB) (nd l i).f0).bind _ = _
  rw [hf, Option.bind_some]
  show (if Nm.named (nd l i).f0 = true then precinctref12_one.j0 (K + l.length + 21) (fd l (nd l i).f0 != (i : Int)) (nd l i).f0 (nd l i).f1 (nd l i).f2 (nd l i).f3 (nd l i).f4 (nd l i).f5 else precinctref12_one.j0 (K + l.length + 21) true (nd l i).f0 (nd l i).f1 (nd l i).f2 (nd l i).f3 (nd l i).f4 (nd l i).f5) = some (if Nm.named (nd l i).f0 = true ∧ ¬ fd l (nd l i).f0 < (i : Int) then nodeErr (nd l i) else 30)
  have b30 : precinctref12_one.j0 (K + l.length + 21) true (nd l i).f0 (nd l i).f1 (nd l i).f2 (nd l i).f3 (nd l i).f4 (nd l i).f5 = some 30 := by rw [precinctref12_one.j0, if_pos rfl]
  by_cases c0 : Nm.named (nd l i).f0 = true
  · rw [if_pos c0]
    by_cases ci : fd l (nd l i).f0 = (i : Int)
    · rw [if_pos ⟨c0, by omega⟩, show (fd l (nd l i).f0 != (i : Int)) = false from bne_eq_false_iff_eq.mpr ci, precinctref12_one.j0, if_neg (by decide)]
      generalize nd l i = x
      have b31 : precinctref12_one.j1 (K + l.length + 20) true x.f0 x.f1 x.f2 x.f3 x.f4 x.f5 = some 31 := by rw [precinctref12_one.j1, if_pos rfl]
      unfold nodeErr
      by_cases c1 : x.f2 < 1
      · rw [if_pos c1, b31, if_pos (Or.inl c1)]
      rw [if_neg c1]
      by_cases c2 : x.f2 > 4
      · rw [if_pos c2, b31, if_pos (Or.inr (Or.inl c2))]
      rw [if_neg c2]
      by_cases c3 : x.f3 < 1
      · rw [if_pos c3, b31, if_pos (Or.inr (Or.inr (Or.inl c3)))]
      rw [if_neg c3]
      by_cases c4 : x.f3 > 1048576
      · rw [if_pos c4, b31, if_pos (Or.inr (Or.inr (Or.inr (Or.inl c4))))]
      rw [if_neg c4]
      by_cases c5 : x.f4 < -1
      · rw [if_pos c5, b31, if_pos (Or.inr (Or.inr (Or.inr (Or.inr (Or.inl c5)))))]
      rw [if_neg c5]
      by_cases c6 : x.f4 > 7
      · rw [if_pos c6, b31, if_pos (Or.inr (Or.inr (Or.inr (Or.inr (Or.inr (Or.inl (by omega)))))))]
      rw [if_neg c6]
      by_cases c7 : x.f1.length > 12
      · rw [decide_eq_true (by omega), b31, if_pos (Or.inr (Or.inr (Or.inr (Or.inr (Or.inr (Or.inr c7))))))]
      have hno : ¬(x.f2 < 1 ∨ x.f2 > 4 ∨ x.f3 < 1 ∨ x.f3 > 1048576 ∨ x.f4 < -1 ∨ x.f4 ≥ 8 ∨ x.f1.length > 12) := by omega
      rw [if_neg hno, decide_eq_false (by omega), precinctref12_one.j1, if_neg (by decide)]
      by_cases c8 : x.f4 = -1
      · rw [if_pos c8, if_pos c8]
        split <;> rfl
      · rw [if_neg c8, if_neg c8]
        have hn2 := rnamed_some x.f5 (K + l.length + 1)
        rw [show K + l.length + 1 + 18 = K + l.length + 19 by omega] at hn2
        rw [hn2, Option.bind_some]
        by_cases c9 : Nm.named x.f5 = true
        · rw [if_pos c9]
          by_cases c10 : x.f2 = 1
          · rw [if_pos c10, if_pos ⟨c9, c10⟩]
          · rw [if_neg c10, if_neg (fun h => c10 h.2)]
        · rw [if_neg c9, if_neg (fun h => c9 h.1)]
    · rw [if_neg (fun h => by omega), show (fd l (nd l i).f0 != (i : Int)) = true from bne_iff_ne.mpr ci, b30]
  · rw [if_neg c0, if_neg (fun h => c0 h.1), b30]
theorem rdeps_l1 (l : List A_) (nm : ByteArray) (ds : List ByteArray) (hs : ds.length ≤ 9223372036854775806) (k : Nat) (hk : k < ds.length) : ∀ (d m : Nat), m + d = k → ∀ K, precinctref12_deps.l1 (K + d + 1) ds k m nm (l.map cB) = if okF (fun m => (dep ds m).toList != (dep ds k).toList) d m = true then precinctref12_deps.l0 K ds ((k : Int) + 1) nm (l.map cB) else some false
  | 0, m, h, K => by
    rw [precinctref12_deps.l1, if_neg (by omega), w64 (by omega) (by omega)]
    rfl
  | d + 1, m, h, K => by
    have e1 : wrap64 ((m : Int) + 1) = ((m + 1 : Nat) : Int) := by rw [w64 (by omega) (by omega)]; rfl
    have er : ∀ j : Nat, rdOf ByteArray.empty ds (j : Int) = dep ds j := fun j => by unfold rdOf; rw [Int.toNat_natCast]
    have hok : okF (fun m => (dep ds m).toList != (dep ds k).toList) (d + 1) m = (((dep ds m).toList != (dep ds k).toList) && okF (fun m => (dep ds m).toList != (dep ds k).toList) d (m + 1)) := rfl
    rw [show K + (d + 1) + 1 = (K + d + 1) + 1 by omega, precinctref12_deps.l1, if_pos (by omega), if_pos (by omega), if_pos (by omega), if_pos (by omega), if_pos (by omega), er, er, hok]
    by_cases c : (dep ds m).toList = (dep ds k).toList
    · rw [if_pos c, show ((dep ds m).toList != (dep ds k).toList) = false from bne_eq_false_iff_eq.mpr c, Bool.false_and, if_neg (by decide)]
    · rw [if_neg c, show ((dep ds m).toList != (dep ds k).toList) = true from bne_iff_ne.mpr c, Bool.true_and, e1]
      exact rdeps_l1 l nm ds hs k hk d (m + 1) (by omega) K
theorem rdeps_l0 (l : List A_) (nm : ByteArray) (hl : l.length ≤ 32) (ds : List ByteArray) (hs : ds.length ≤ 9223372036854775806) : ∀ (d k : Nat), k + d = ds.length → ∃ K0, ∀ K, K0 ≤ K → precinctref12_deps.l0 K ds k nm (l.map cB) = some (okF (depOk l ds) d k)
  | 0, k, h => by
    refine ⟨1, fun K hK => ?_⟩
    obtain ⟨K, rfl⟩ : ∃ m, K = m + 1 := ⟨K - 1, by omega⟩
    rw [precinctref12_deps.l0, if_neg (by omega)]
    rfl
  | d + 1, k, h => by
    obtain ⟨K0, h0⟩ := rdeps_l0 l nm hl ds hs d (k + 1) (by omega)
    refine ⟨K0 + k + l.length + 3, fun K hK => ?_⟩
    obtain ⟨K, rfl⟩ : ∃ m, K = m + k + 1 + 1 := ⟨K - k - 2, by omega⟩
    have er : rdOf ByteArray.empty ds (k : Int) = dep ds k := by unfold rdOf; rw [Int.toNat_natCast]
    have hok : okF (depOk l ds) (d + 1) k = (depOk l ds k && okF (depOk l ds) d (k + 1)) := rfl
    have hdo : depOk l ds k = (decide (0 ≤ fd l (dep ds k)) && okF (fun m => (dep ds m).toList != (dep ds k).toList) k 0) := rfl
    have hf := rfind_some l nm (dep ds k) hl (K + k - l.length)
    rw [show K + k - l.length + l.length + 1 = K + k + 1 by omega] at hf
    rw [precinctref12_deps.l0, if_pos (by omega), if_pos (by omega), er, hf, Option.bind_some, hok, hdo]
    by_cases c : fd l (dep ds k) < 0
    · rw [if_pos c, decide_eq_false (by omega), Bool.false_and, Bool.false_and]
    · have e := rdeps_l1 l nm ds hs k (by omega) k 0 (by omega) K
      rw [if_neg c, decide_eq_true (by omega), Bool.true_and]
      refine e.trans ?_
      cases okF (fun m => (dep ds m).toList != (dep ds k).toList) k 0 with
      | true => rw [if_pos rfl, Bool.true_and]; exact h0 K (by omega)
      | false => rw [if_neg (by decide), Bool.false_and]
theorem rdeps_some (l : List A_) (nm : ByteArray) (hl : l.length ≤ 32) (i : Nat) (hi : i < l.length) (hs : (nd l i).f1.length ≤ 9223372036854775806) : ∃ K0, ∀ K, K0 ≤ K → precinctref12_deps.f K nm (l.map cB) i = some (depsOk l (nd l i).f1) := by
  obtain ⟨K0, h0⟩ := rdeps_l0 l nm hl (nd l i).f1 hs (nd l i).f1.length 0 (by omega)
  refine ⟨K0, fun K hK => ?_⟩
  unfold precinctref12_deps.f
  rw [List.length_map, if_pos (by omega), if_pos (by omega), rdB l i hi]
  exact h0 K hK
theorem rwaits_l0 (l : List A_) (nm : ByteArray) (i k : Nat) (hi : i < l.length) (hk : k < l.length) (hs : (nd l i).f1.length ≤ 9223372036854775806) : ∀ (d j : Nat), j + d = (nd l i).f1.length → ∀ K, precinctref12_Waits.l0 (K + d + 1) i k j nm (l.map cB) = some (((nd l i).f1.drop j).any fun d => d.toList == (nd l k).f0.toList)
  | 0, j, h, K => by
    have e0 : (cB (nd l i)).f1 = (nd l i).f1 := rfl
    rw [precinctref12_Waits.l0, List.length_map, if_pos (by omega), if_pos (by omega), rdB l i hi, e0, if_neg (by omega), List.drop_eq_nil_of_le (by omega)]
    rfl
  | d + 1, j, h, K => by
    have e0 : (cB (nd l i)).f1 = (nd l i).f1 := rfl
    have e2 : (cB (nd l k)).f0 = (nd l k).f0 := rfl
    have e1 : wrap64 ((j : Int) + 1) = ((j + 1 : Nat) : Int) := by rw [w64 (by omega) (by omega)]; rfl
    have er : rdOf ByteArray.empty (nd l i).f1 (j : Int) = (nd l i).f1[j]'(by omega) := by
      unfold rdOf
      rw [Int.toNat_natCast, List.getD_eq_getElem?_getD, List.getElem?_eq_getElem (by omega), Option.getD_some]
    have ed : (nd l i).f1.drop j = (nd l i).f1[j]'(by omega) :: (nd l i).f1.drop (j + 1) := List.drop_eq_getElem_cons (by omega)
    rw [show K + (d + 1) + 1 = (K + d + 1) + 1 by omega, precinctref12_Waits.l0, List.length_map, if_pos (by omega), if_pos (by omega), rdB l i hi, rdB l k hk, e0, e2, if_pos (by omega), if_pos (by omega), if_pos (by omega), if_pos (by omega), er, ed, List.any_cons]
    by_cases c : ((nd l i).f1[j]'(by omega)).toList = (nd l k).f0.toList
    · rw [if_pos c, beq_iff_eq.mpr c, Bool.true_or]
    · rw [if_neg c, beq_eq_false_iff_ne.mpr c, Bool.false_or, e1]
      exact rwaits_l0 l nm i k hi hk hs d (j + 1) (by omega) K
theorem rwaits_some (l : List A_) (nm : ByteArray) (i k : Nat) (hi : i < l.length) (hk : k < l.length) (hs : (nd l i).f1.length ≤ 9223372036854775806) (K : Nat) (hK : (nd l i).f1.length + 1 ≤ K) : precinctref12_Waits.f K nm (l.map cB) i k = some (adj l i k) := by
  have e := rwaits_l0 l nm i k hi hk hs (nd l i).f1.length 0 (by omega) (K - (nd l i).f1.length - 1)
  rw [List.drop_zero, show K - (nd l i).f1.length - 1 + (nd l i).f1.length + 1 = K by omega] at e
  exact e
end Go.Proofs.Ytjicfkmpgogppaa.Gr
