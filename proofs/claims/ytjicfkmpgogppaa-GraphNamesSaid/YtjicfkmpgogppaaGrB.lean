/-
  The document's Behind, Check and Masks.
-/
import Derived.Test.YtjicfkmpgogppaaGrR
import Derived.Test.YtjicfkmpgogppaaGrC
import Derived.Test.YtjicfkmpgogppaaPGx15
import Derived.Test.YtjicfkmpgogppaaPGx16
import Derived.Test.YtjicfkmpgogppaaPGx19
namespace Go.Proofs.Ytjicfkmpgogppaa.Gr
set_option linter.unusedVariables false
set_option linter.unusedSimpArgs false
open Go Go.RowKit Go.Proofs.Ytjicfkmpgogppaa.Plain Go.Proofs.Ytjicfkmpgogppaa.PG Go.Proofs.YtjicfkmpgogppaaW.PrintWords Go.Proofs.YtjicfkmpgogppaaW.PrintLast Go.Proofs.YtjicfkmpgogppaaW.PrintMore
theorem getD_set (r : List Bool) (a j : Nat) (ha : a < r.length) : (r.set a true).getD j false = if j = a then true else r.getD j false := by
  rw [List.getD_eq_getElem?_getD, List.getElem?_set]
  by_cases c : a = j
  · subst c
    rw [if_pos rfl, if_pos ha, if_pos rfl]; rfl
  · rw [if_neg c, if_neg (Ne.symm c), List.getD_eq_getElem?_getD]
theorem cnt_pos {r : List Bool} {i : Nat} (h : r.getD i false = true) : 1 ≤ cnt r := by
  unfold cnt
  rw [Nat.one_le_iff_ne_zero, Nat.ne_zero_iff_zero_lt, List.countP_pos_iff]
  rw [List.getD_eq_getElem?_getD] at h
  cases e : r[i]? with
  | none => rw [e] at h; cases h
  | some b => rw [e] at h; exact ⟨b, List.mem_of_getElem? e, h⟩
structure Mid (w : Nat → Nat → Bool) (n i : Nat) (r0 r : List Bool) (a b : Nat) : Prop where
  good : Good w n i r
  sub : Sub r0 r
  all : ∀ a' b', a' < n → b' < n → (a' < a ∨ (a' = a ∧ b' < b)) → w a' b' = true → r0.getD b' false = true → r.getD a' false = true ∧ a' ≠ i
theorem Mid.keep {w : Nat → Nat → Bool} {n i : Nat} {r0 r : List Bool} {a b : Nat} (h : Mid w n i r0 r a b) (hn : ¬ (w a b = true ∧ r.getD b false = true)) : Mid w n i r0 r a (b + 1) := by
  refine ⟨h.good, h.sub, fun a' b' h1 h2 h3 h4 h5 => ?_⟩
  by_cases c : a' = a ∧ b' = b
  · obtain ⟨rfl, rfl⟩ := c
    exact absurd ⟨h4, h.sub _ h5⟩ hn
  · exact h.all a' b' h1 h2 (by omega) h4 h5
theorem Mid.tr {w : Nat → Nat → Bool} {n i : Nat} {r0 r : List Bool} {a b : Nat} (h : Mid w n i r0 r a b) (hb : b < n) (h1 : w a b = true) (h2 : r.getD b false = true) : Tr w n a i := by
  rcases h.good.2.2 b hb h2 with rfl | h3
  · exact .one h1
  · exact .cons h1 hb h3
theorem Mid.put {w : Nat → Nat → Bool} {n i : Nat} {r0 r : List Bool} {a b : Nat} (h : Mid w n i r0 r a b) (ha : a < n) (hb : b < n) (hne : a ≠ i) (h1 : w a b = true) (h2 : r.getD b false = true) : Mid w n i r0 (r.set a true) a (b + 1) := by
  have hl := h.good.1
  have hs : ∀ j, (r.set a true).getD j false = if j = a then true else r.getD j false := fun j => getD_set r a j (by omega)
  have hm : ∀ j, r.getD j false = true → (r.set a true).getD j false = true := fun j hj => by rw [hs]; split <;> first | rfl | exact hj
  refine ⟨⟨by rw [List.length_set]; exact hl, hm _ h.good.2.1, fun j hj hr => ?_⟩, fun j hj => hm j (h.sub j hj), fun a' b' q1 q2 q3 q4 q5 => ?_⟩
  · rw [hs] at hr
    by_cases c : j = a
    · subst c
      exact .inr (h.tr hb h1 h2)
    · rw [if_neg c] at hr
      exact h.good.2.2 j hj hr
  · by_cases c : a' = a
    · subst c
      exact ⟨by rw [hs, if_pos rfl], hne⟩
    · have := h.all a' b' q1 q2 (by omega) q4 q5
      exact ⟨hm _ this.1, this.2⟩
theorem Mid.row {w : Nat → Nat → Bool} {n i : Nat} {r0 r : List Bool} {a : Nat} (h : Mid w n i r0 r a n) : Mid w n i r0 r (a + 1) 0 :=
  ⟨h.good, h.sub, fun a' b' h1 h2 h3 => h.all a' b' h1 h2 (by omega)⟩
theorem Mid.pass {w : Nat → Nat → Bool} {n i : Nat} {r0 r : List Bool} (h : Mid w n i r0 r n 0) : Pass w n i r0 r :=
  ⟨h.good, h.sub, fun a b h1 h2 h3 h4 => h.all a b h1 h2 (.inl h1) h3 h4⟩
theorem Mid.start {w : Nat → Nat → Bool} {n i : Nat} {r : List Bool} (h : Good w n i r) : Mid w n i r r 0 0 :=
  ⟨h, fun _ h => h, fun a' b' _ _ h3 => by omega⟩
section
variable (l : List A_) (nm : ByteArray) (hl : l.length ≤ 32) (M : Nat) (hM : ∀ i, i < l.length → (nd l i).f1.length + 1 ≤ M) (hM2 : M ≤ 9223372036854775806)
include hl hM hM2
theorem behindR_l2 (i : Nat) (hi : i < l.length) (r0 : List Bool) (s : Nat) (a : Nat) (ha : a < l.length) : ∀ (d b : Nat) (r : List Bool), b + d = l.length → Mid (adj l) l.length i r0 r a b →
    (P (adj l) l.length i i = true ∧ ∀ K, M ≤ K → precinctref12_Behind.l2 (K + 2 * d + 1) i l.length r s a b nm (l.map cB) = some true) ∨
    ∃ r', Mid (adj l) l.length i r0 r' (a + 1) 0 ∧ ∀ K, M ≤ K → precinctref12_Behind.l2 (K + 2 * d + 1) i l.length r s a b nm (l.map cB) = precinctref12_Behind.l1 K i l.length r' s ((a : Int) + 1) nm (l.map cB)
  | 0, b, r, h, hm => by
    obtain rfl : b = l.length := by omega
    refine .inr ⟨r, hm.row, fun K hK => ?_⟩
    rw [show K + 2 * 0 + 1 = K + 1 by omega, precinctref12_Behind.l2, List.length_map, if_neg (by omega), w64 (by omega) (by omega)]
  | d + 1, b, r, h, hm => by
    have hb : b < l.length := by omega
    have hlr := hm.good.1
    have e1 : wrap64 ((b : Int) + 1) = ((b + 1 : Nat) : Int) := by rw [w64 (by omega) (by omega)]; rfl
    have er : rdOf false r (b : Int) = r.getD b false := by unfold rdOf; rw [Int.toNat_natCast]
    have hd := hM a ha
    have ew : ∀ K, M ≤ K → precinctref12_Waits.f K nm (l.map cB) a b = some (adj l a b) := fun K hK => rwaits_some l nm a b ha hb (by omega) K (by omega)
    have eb : ((a : Int) == (i : Int)) = decide (a = i) := by
      rw [Bool.eq_iff_iff, beq_iff_eq, decide_eq_true_iff]; omega
    by_cases c : adj l a b = true ∧ r.getD b false = true
    · by_cases ci : a = i
      · subst ci
        refine .inl ⟨tr_P (hm.tr hb c.1 c.2), fun K hK => ?_⟩
        rw [show K + 2 * (d + 1) + 1 = (K + 2 * d + 1 + 1) + 1 by omega, precinctref12_Behind.l2, List.length_map, if_pos (by omega), ew _ (by omega), Option.bind_some, if_pos c.1, if_pos (by omega), if_pos (by omega), er, if_pos c.2, eb, decide_eq_true rfl, precinctref12_Behind.j3, if_pos rfl]
      · rcases behindR_l2 i hi r0 s a ha d (b + 1) (r.set a true) (by omega) (hm.put ha hb ci c.1 c.2) with ⟨h1, h2⟩ | ⟨r', h1, h2⟩
        · refine .inl ⟨h1, fun K hK => ?_⟩
          rw [show K + 2 * (d + 1) + 1 = (K + 2 * d + 1 + 1) + 1 by omega, precinctref12_Behind.l2, List.length_map, if_pos (by omega), ew _ (by omega), Option.bind_some, if_pos c.1, if_pos (by omega), if_pos (by omega), er, if_pos c.2, eb, decide_eq_false ci, precinctref12_Behind.j3, if_neg (by decide), if_pos c.1, if_pos (by omega), if_pos (by omega), er, if_pos c.2, if_pos (by omega), if_pos (by omega), Int.toNat_natCast, e1]
          exact h2 K hK
        · refine .inr ⟨r', h1, fun K hK => ?_⟩
          rw [show K + 2 * (d + 1) + 1 = (K + 2 * d + 1 + 1) + 1 by omega, precinctref12_Behind.l2, List.length_map, if_pos (by omega), ew _ (by omega), Option.bind_some, if_pos c.1, if_pos (by omega), if_pos (by omega), er, if_pos c.2, eb, decide_eq_false ci, precinctref12_Behind.j3, if_neg (by decide), if_pos c.1, if_pos (by omega), if_pos (by omega), er, if_pos c.2, if_pos (by omega), if_pos (by omega), Int.toNat_natCast, e1]
          exact h2 K hK
    · have hstep : ∀ K, M ≤ K → precinctref12_Behind.l2 (K + 2 * (d + 1) + 1) i l.length r s a b nm (l.map cB) = precinctref12_Behind.l2 (K + 2 * d + 1) i l.length r s a ((b + 1 : Nat) : Int) nm (l.map cB) := by
        intro K hK
        rw [show K + 2 * (d + 1) + 1 = (K + 2 * d + 1 + 1) + 1 by omega, precinctref12_Behind.l2, List.length_map, if_pos (by omega), ew _ (by omega), Option.bind_some]
        cases ca : adj l a b with
        | true =>
          have cr : ¬ r.getD b false = true := fun h => c ⟨ca, h⟩
          rw [if_pos rfl, if_pos (by omega), if_pos (by omega), er, if_neg cr, precinctref12_Behind.j3, if_neg (by decide), if_pos rfl, if_pos (by omega), if_pos (by omega), er, if_neg cr, e1]
        | false =>
          rw [if_neg (by decide), precinctref12_Behind.j3, if_neg (by decide), if_neg (by decide), e1]
      rcases behindR_l2 i hi r0 s a ha d (b + 1) r (by omega) (hm.keep c) with ⟨h1, h2⟩ | ⟨r', h1, h2⟩
      · exact .inl ⟨h1, fun K hK => (hstep K hK).trans (h2 K hK)⟩
      · exact .inr ⟨r', h1, fun K hK => (hstep K hK).trans (h2 K hK)⟩
theorem behindR_l1 (i : Nat) (hi : i < l.length) (r0 : List Bool) (s : Nat) (hs : s ≤ 4096) : ∀ (d a : Nat) (r : List Bool), a + d = l.length → Mid (adj l) l.length i r0 r a 0 →
    (P (adj l) l.length i i = true ∧ ∃ K0, ∀ K, K0 ≤ K → precinctref12_Behind.l1 K i l.length r s a nm (l.map cB) = some true) ∨
    ∃ r', Mid (adj l) l.length i r0 r' l.length 0 ∧ ∃ c, ∀ K, M ≤ K → precinctref12_Behind.l1 (K + c) i l.length r s a nm (l.map cB) = precinctref12_Behind.l0 K i l.length r' ((s : Int) + 1) nm (l.map cB)
  | 0, a, r, h, hm => by
    obtain rfl : a = l.length := by omega
    refine .inr ⟨r, hm, 1, fun K hK => ?_⟩
    rw [precinctref12_Behind.l1, List.length_map, if_neg (by omega), w64 (by omega) (by omega)]
  | d + 1, a, r, h, hm => by
    rcases behindR_l2 l nm hl M hM hM2 i hi r0 s a (by omega) l.length 0 r (by omega) hm with ⟨h1, h2⟩ | ⟨r', h1, h2⟩
    · refine .inl ⟨h1, M + 2 * l.length + 2, fun K hK => ?_⟩
      obtain ⟨K, rfl⟩ : ∃ m, K = m + 2 * l.length + 1 + 1 := ⟨K - 2 * l.length - 2, by omega⟩
      rw [precinctref12_Behind.l1, List.length_map, if_pos (by omega)]
      exact h2 K (by omega)
    · have hstep : ∀ K, M ≤ K → precinctref12_Behind.l1 (K + 2 * l.length + 1 + 1) i l.length r s a nm (l.map cB) = precinctref12_Behind.l1 K i l.length r' s ((a + 1 : Nat) : Int) nm (l.map cB) := by
        intro K hK
        rw [precinctref12_Behind.l1, List.length_map, if_pos (by omega)]
        exact h2 K hK
      rcases behindR_l1 i hi r0 s hs d (a + 1) r' (by omega) h1 with ⟨h3, K0, h4⟩ | ⟨r2, h3, c, h4⟩
      · refine .inl ⟨h3, K0 + M + 2 * l.length + 2, fun K hK => ?_⟩
        obtain ⟨K, rfl⟩ : ∃ m, K = m + 2 * l.length + 1 + 1 := ⟨K - 2 * l.length - 2, by omega⟩
        rw [hstep K (by omega)]
        exact h4 K (by omega)
      · refine .inr ⟨r2, h3, c + 2 * l.length + 2, fun K hK => ?_⟩
        rw [show K + (c + 2 * l.length + 2) = (K + c) + 2 * l.length + 1 + 1 by omega, hstep _ (by omega)]
        exact h4 K hK
theorem behindR_l0 (i : Nat) (hi : i < l.length) : ∀ (d s : Nat) (r : List Bool), s + d = l.length → Good (adj l) l.length i r → Grown (adj l) l.length i s r → ∃ K0, ∀ K, K0 ≤ K → precinctref12_Behind.l0 K i l.length r s nm (l.map cB) = some (P (adj l) l.length i i)
  | 0, s, r, h, hg, hw => by
    obtain rfl : s = l.length := by omega
    refine ⟨1, fun K hK => ?_⟩
    obtain ⟨K, rfl⟩ : ∃ m, K = m + 1 := ⟨K - 1, by omega⟩
    rw [precinctref12_Behind.l0, if_neg (by omega), grown_end hi hg hw]
  | d + 1, s, r, h, hg, hw => by
    rcases behindR_l1 l nm hl M hM hM2 i hi r s (by omega) l.length 0 r (by omega) (Mid.start hg) with ⟨h1, K0, h2⟩ | ⟨r', h1, c, h2⟩
    · refine ⟨K0 + 1, fun K hK => ?_⟩
      obtain ⟨K, rfl⟩ : ∃ m, K = m + 1 := ⟨K - 1, by omega⟩
      rw [precinctref12_Behind.l0, if_pos (by omega), h1]
      exact h2 K (by omega)
    · obtain ⟨K0, h3⟩ := behindR_l0 i hi d (s + 1) r' (by omega) h1.good (grown_step hg hw h1.pass)
      refine ⟨K0 + M + c + 1, fun K hK => ?_⟩
      obtain ⟨K, rfl⟩ : ∃ m, K = m + c + 1 := ⟨K - c - 1, by omega⟩
      rw [precinctref12_Behind.l0, if_pos (by omega)]
      exact (h2 K (by omega)).trans (h3 K (by omega))
theorem behindR_some (i : Nat) (hi : i < l.length) : ∃ K0, ∀ K, K0 ≤ K → precinctref12_Behind.f K nm (l.map cB) i i l.length = some (P (adj l) l.length i i) := by
  have hd := hM i hi
  have ew : ∀ K, M ≤ K → precinctref12_Waits.f K nm (l.map cB) i i = some (adj l i i) := fun K hK => rwaits_some l nm i i hi hi (by omega) K (by omega)
  have hrl : (List.replicate l.length false).length = l.length := List.length_replicate
  have hs : ∀ j, ((List.replicate l.length false).set i true).getD j false = if j = i then true else (List.replicate l.length false).getD j false := fun j => getD_set _ i j (by omega)
  have hf : ∀ j, (List.replicate l.length false).getD j false = false := fun j => by
    rw [List.getD_eq_getElem?_getD]
    by_cases c : j < l.length
    · rw [List.getElem?_replicate, if_pos c]; rfl
    · rw [List.getElem?_replicate, if_neg c]; rfl
  have hg : Good (adj l) l.length i ((List.replicate l.length false).set i true) := by
    refine ⟨by rw [List.length_set]; exact hrl, by rw [hs, if_pos rfl], fun a _ ha => ?_⟩
    rw [hs] at ha
    by_cases c : a = i
    · exact .inl c
    · rw [if_neg c, hf] at ha; cases ha
  obtain ⟨K0, h0⟩ := behindR_l0 l nm hl M hM hM2 i hi l.length 0 _ (by omega) hg (.inr (cnt_pos (i := i) hg.2.1))
  refine ⟨K0 + M, fun K hK => ?_⟩
  unfold precinctref12_Behind.f
  rw [if_neg (by omega), ew K (by omega), Option.bind_some]
  cases c : adj l i i with
  | true => rw [if_pos rfl, P_le (Nat.zero_le _) (show P (adj l) 0 i i = true from c)]
  | false =>
    rw [if_neg (by decide), List.length_map, if_pos (by omega), Int.toNat_natCast, if_pos (by omega), Option.bind_some, if_pos (by omega), if_pos (by rw [List.length_replicate]; omega), Int.toNat_natCast]
    exact h0 K (by omega)
theorem rcheck_l2 : ∀ (d i : Nat), i + d = l.length → ∃ K0, ∀ K, K0 ≤ K → precinctref12_Check.l2 K l.length i nm (l.map cB) = some (orElse (scan (e3 l) d i) (0, 0))
  | 0, i, h => by
    refine ⟨1, fun K hK => ?_⟩
    obtain ⟨K, rfl⟩ : ∃ m, K = m + 1 := ⟨K - 1, by omega⟩
    rw [precinctref12_Check.l2, if_neg (by omega)]; rfl
  | d + 1, i, h => by
    obtain ⟨K1, h1⟩ := behindR_some l nm hl M hM hM2 i (by omega)
    obtain ⟨K2, h2⟩ := rcheck_l2 d (i + 1) (by omega)
    have e1' : wrap64 ((i : Int) + 1) = ((i + 1 : Nat) : Int) := by rw [w64 (by omega) (by omega)]; rfl
    have hsc : scan (e3 l) (d + 1) i = if e3 l i = 0 then scan (e3 l) d (i + 1) else some (i, e3 l i) := rfl
    have ee : e3 l i = if P (adj l) l.length i i = true then 33 else 0 := rfl
    refine ⟨K1 + K2 + 1, fun K hK => ?_⟩
    obtain ⟨K, rfl⟩ : ∃ m, K = m + 1 := ⟨K - 1, by omega⟩
    rw [precinctref12_Check.l2, if_pos (by omega), h1 K (by omega), Option.bind_some]
    by_cases c : P (adj l) l.length i i = true
    · rw [if_pos c] at ee
      rw [if_pos c, hsc, ee, if_neg (by decide)]
      rfl
    · rw [if_neg c] at ee
      rw [if_neg c, hsc, if_pos ee, e1']
      exact h2 K (by omega)
theorem rcheck_l1 : ∀ (d i : Nat), i + d = l.length → ∃ K0, ∀ K, K0 ≤ K → precinctref12_Check.l1 K l.length i nm (l.map cB) = some (orElse (scan (e2 l) d i) (orElse (scan (e3 l) l.length 0) (0, 0)))
  | 0, i, h => by
    obtain ⟨K0, h0⟩ := rcheck_l2 l nm hl M hM hM2 l.length 0 (by omega)
    refine ⟨K0 + 1, fun K hK => ?_⟩
    obtain ⟨K, rfl⟩ : ∃ m, K = m + 1 := ⟨K - 1, by omega⟩
    rw [precinctref12_Check.l1, if_neg (by omega)]
    exact h0 K (by omega)
  | d + 1, i, h => by
    have hd := hM i (by omega)
    obtain ⟨K1, h1⟩ := rdeps_some l nm hl i (by omega) (by omega)
    obtain ⟨K2, h2⟩ := rcheck_l1 d (i + 1) (by omega)
    have e1' : wrap64 ((i : Int) + 1) = ((i + 1 : Nat) : Int) := by rw [w64 (by omega) (by omega)]; rfl
    have hsc : scan (e2 l) (d + 1) i = if e2 l i = 0 then scan (e2 l) d (i + 1) else some (i, e2 l i) := rfl
    have ee : e2 l i = if depsOk l (nd l i).f1 = true then 0 else 32 := rfl
    refine ⟨K1 + K2 + 1, fun K hK => ?_⟩
    obtain ⟨K, rfl⟩ : ∃ m, K = m + 1 := ⟨K - 1, by omega⟩
    rw [precinctref12_Check.l1, if_pos (by omega), h1 K (by omega), Option.bind_some]
    by_cases c : depsOk l (nd l i).f1 = true
    · rw [if_pos c] at ee
      rw [if_pos c, hsc, if_pos ee, e1']
      exact h2 K (by omega)
    · rw [if_neg c] at ee
      rw [if_neg c, hsc, ee, if_neg (by decide)]
      rfl
theorem rcheck_l0 : ∀ (d i : Nat), i + d = l.length → ∃ K0, ∀ K, K0 ≤ K → precinctref12_Check.l0 K l.length i nm (l.map cB) = some (orElse (scan (e1 l) d i) (orElse (scan (e2 l) l.length 0) (orElse (scan (e3 l) l.length 0) (0, 0))))
  | 0, i, h => by
    obtain ⟨K0, h0⟩ := rcheck_l1 l nm hl M hM hM2 l.length 0 (by omega)
    refine ⟨K0 + 1, fun K hK => ?_⟩
    obtain ⟨K, rfl⟩ : ∃ m, K = m + 1 := ⟨K - 1, by omega⟩
    rw [precinctref12_Check.l0, if_neg (by omega)]
    exact h0 K (by omega)
  | d + 1, i, h => by
    obtain ⟨K2, h2⟩ := rcheck_l0 d (i + 1) (by omega)
    have e1' : wrap64 ((i : Int) + 1) = ((i + 1 : Nat) : Int) := by rw [w64 (by omega) (by omega)]; rfl
    have hsc : scan (e1 l) (d + 1) i = if e1 l i = 0 then scan (e1 l) d (i + 1) else some (i, e1 l i) := rfl
    refine ⟨K2 + l.length + 22, fun K hK => ?_⟩
    obtain ⟨K, rfl⟩ : ∃ m, K = m + l.length + 21 + 1 := ⟨K - l.length - 22, by omega⟩
    rw [precinctref12_Check.l0, if_pos (by omega), rone_some l nm hl i (by omega), Option.bind_some, hsc]
    by_cases c : e1 l i = 0
    · rw [if_pos c, if_pos c, e1']
      exact h2 _ (by omega)
    · rw [if_neg c, if_neg c]
      rfl
end
theorem rcheck_some (nm : ByteArray) (l : List A_) (M : Nat) (hM : ∀ i, i < l.length → (nd l i).f1.length + 1 ≤ M) (hM2 : M ≤ 9223372036854775806) : ∃ K0, ∀ K, K0 ≤ K → precinctref12_Check.f K nm (l.map cB) = some (chk nm l) := by
  have hj : ∀ K x b, precinctref12_Check.j0 (K + 1) x b nm (l.map cB) = if b = true then some (-1, 31) else precinctref12_Check.l0 K x 0 nm (l.map cB) := fun K x b => by rw [precinctref12_Check.j0]
  unfold chk
  by_cases c : Nm.named nm = true
  · by_cases c1 : (l.length : Int) < 1
    · refine ⟨20, fun K hK => ?_⟩
      obtain ⟨K, rfl⟩ : ∃ m, K = m + 18 + 1 := ⟨K - 19, by omega⟩
      unfold precinctref12_Check.f
      rw [show K + 18 + 1 = (K + 1) + 18 by omega, rnamed_some, Option.bind_some, if_pos c, List.length_map, if_pos c1, show (K + 1) + 18 = K + 18 + 1 by omega, hj, if_pos rfl, if_pos c, if_pos c1]
    · by_cases c2 : (l.length : Int) > 12
      · refine ⟨20, fun K hK => ?_⟩
        obtain ⟨K, rfl⟩ : ∃ m, K = m + 18 + 1 := ⟨K - 19, by omega⟩
        unfold precinctref12_Check.f
        rw [show K + 18 + 1 = (K + 1) + 18 by omega, rnamed_some, Option.bind_some, if_pos c, List.length_map, if_neg c1, decide_eq_true c2, show (K + 1) + 18 = K + 18 + 1 by omega, hj, if_pos rfl, if_pos c, if_neg c1, if_pos c2]
      · obtain ⟨K0, h0⟩ := rcheck_l0 l nm (by omega) M hM hM2 l.length 0 (by omega)
        refine ⟨K0 + 20, fun K hK => ?_⟩
        obtain ⟨K, rfl⟩ : ∃ m, K = m + 18 + 1 := ⟨K - 19, by omega⟩
        unfold precinctref12_Check.f
        rw [show K + 18 + 1 = (K + 1) + 18 by omega, rnamed_some, Option.bind_some, if_pos c, List.length_map, if_neg c1, decide_eq_false c2, show (K + 1) + 18 = K + 18 + 1 by omega, hj, if_neg (by decide), if_pos c, if_neg c1, if_neg c2]
        exact h0 _ (by omega)
  · refine ⟨20, fun K hK => ?_⟩
    obtain ⟨K, rfl⟩ : ∃ m, K = m + 18 := ⟨K - 18, by omega⟩
    unfold precinctref12_Check.f
    rw [rnamed_some, Option.bind_some, if_neg c, if_neg c]
end Go.Proofs.Ytjicfkmpgogppaa.Gr
