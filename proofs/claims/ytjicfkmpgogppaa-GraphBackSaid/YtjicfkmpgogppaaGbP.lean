/-
  GraphBack, plain: a workflow is read back from its value; a value that is read as one is its value.
-/
import Derived.Test.YtjicfkmpgogppaaGvP
import Derived.Test.YtjicfkmpgogppaaFlows
import Derived.Test.YtjicfkmpgogppaaBuiltS
import Derived.Test.YtjicfkmpgogppaaEqual
import Derived.Test.YtjicfkmpgogppaaPGx32
namespace Go.Proofs.Ytjicfkmpgogppaa.Gv
set_option linter.unusedVariables false
set_option linter.unusedSimpArgs false
open Go Go.RowKit Go.Proofs.Ytjicfkmpgogppaa.Plain Go.Proofs.Ytjicfkmpgogppaa.Gr Go.Proofs.Ytjicfkmpgogppaa.Vs Go.Proofs.Ytjicfkmpgogppaa.PG Go.Proofs.YtjicfkmpgogppaaW.PrintWords Go.Proofs.YtjicfkmpgogppaaW.PrintLast Go.Proofs.YtjicfkmpgogppaaW.PrintMore
theorem six {l : List V} (h : l.length = 6) : ∃ v0 v1 v2 v3 v4 v5, l = [v0, v1, v2, v3, v4, v5] := by
  match l, h with
  | [v0, v1, v2, v3, v4, v5], _ => exact ⟨v0, v1, v2, v3, v4, v5, rfl⟩
theorem two {l : List V} (h : l.length = 2) : ∃ v0 v1, l = [v0, v1] := by
  match l, h with
  | [v0, v1], _ => exact ⟨v0, v1, rfl⟩
theorem eq_str {y : V} (h : y.f0 = 1) : Eq.eqV (strV y.f2) y = true := by
  unfold strV
  rw [Eq.eqV, if_pos h.symm, if_neg (by decide), if_pos rfl]
  simp
theorem eq_num {y : V} (h : y.f0 = 0) : Eq.eqV (numV y.f1) y = true := by
  unfold numV
  rw [Eq.eqV, if_pos h.symm, if_pos rfl]
  simp
theorem eq_all {y : V} {l : List V} (h : y.f0 = 2) (hl : l.length = y.f3.length) (he : Eq.eqVs l y.f3 = true) : Eq.eqV (allV l) y = true := by
  unfold allV
  rw [Eq.eqV, if_pos h.symm, if_neg (by decide), if_neg (by decide), if_pos rfl, if_pos hl, he]
theorem eqVs_refl : ∀ l : List V, (∀ x ∈ l, Eq.eqV x x = true) → Eq.eqVs l l = true
  | [], _ => rfl
  | x :: l, h => by
    rw [Eq.eqVs, if_pos (h x (by simp))]
    exact eqVs_refl l (fun y hy => h y (by simp [hy]))
theorem eqV_refl : ∀ x : V, Eq.eqV x x = true := V_ind fun a b c l ih => by
  rw [Eq.eqV, if_pos rfl]
  split
  · simp
  · split
    · simp
    · split
      · rw [if_pos rfl]; exact eqVs_refl l ih
      · rfl
theorem eq_texts : ∀ l : List V, textsB l = true → Eq.eqVs ((l.map (·.f2)).map strV) l = true
  | [], _ => rfl
  | x :: l, h => by
    have h2 : (x.f0 == 1 && textsB l) = true := h
    rw [Bool.and_eq_true, beq_iff_eq] at h2
    rw [List.map_cons, List.map_cons, Eq.eqVs, if_pos (eq_str h2.1)]
    exact eq_texts l h2.2
theorem eq_node {v : V} {x : A_} (h : nodeR v = some x) : Eq.eqV (nodeV x) v = true := by
  obtain ⟨a, b, c, l⟩ := v
  unfold nodeR at h
  split at h
  · rename_i hs
    obtain ⟨ha, hl⟩ := of_decide_eq_true hs
    split at h
    · split at h
      · rename_i ht
        have h := Option.some.inj h
        obtain ⟨v0, v1, v2, v3, v4, v5, rfl⟩ := six (by have := congrArg List.length hl; simpa using this)
        · skip
          simp only [List.map_cons, List.map_nil, List.cons.injEq, and_true] at hl
          obtain ⟨k0, k1, k2, k3, k4, k5⟩ := hl
          subst h
          have ht1 : textsB v1.f3 = true := ht
          refine eq_all ha rfl ?_
          show Eq.eqVs [strV v0.f2, allV ((v1.f3.map (·.f2)).map strV), numV v2.f1, numV v3.f1, numV v4.f1, strV v5.f2] [v0, v1, v2, v3, v4, v5] = true
          simp only [Eq.eqVs, eq_str k0, eq_num k2, eq_num k3, eq_num k4, eq_str k5, eq_all k1 (by simp) (eq_texts v1.f3 ht1), if_true]
      · cases h
    · cases h
  · cases h
theorem eq_nodes : ∀ (l : List V) (r : List A_), nodesR l = some r → (r.map nodeV).length = l.length ∧ Eq.eqVs (r.map nodeV) l = true
  | [], r, h => by
    obtain rfl := Option.some.inj h
    exact ⟨rfl, rfl⟩
  | v :: l, r, h => by
    rw [nodesR] at h
    cases c : nodeR v with
    | none => rw [c] at h; cases h
    | some x =>
      rw [c] at h
      cases d : nodesR l with
      | none => rw [d] at h; cases h
      | some s =>
        rw [d] at h
        obtain rfl := Option.some.inj h
        obtain ⟨h1, h2⟩ := eq_nodes l s d
        rw [List.map_cons, Eq.eqVs, if_pos (eq_node c)]
        exact ⟨by simp only [List.length_cons, h1], h2⟩
theorem flowR_err (v : V) : (flowR v).2.2 = 0 ∨ (flowR v).2.2 = 4 := by
  unfold flowR
  split
  · split
    · exact .inl rfl
    · exact .inr rfl
  · exact .inr rfl
theorem eq_flow {v : V} (h : (flowR v).2.2 = 0) : Eq.eqV (flowV (flowR v).1 (flowR v).2.1) v = true := by
  obtain ⟨a, b, c, l⟩ := v
  unfold flowR at h ⊢
  by_cases hs : shapedB a l [1, 2] = true
  · obtain ⟨ha, hl⟩ := of_decide_eq_true hs
    obtain ⟨v0, v1, rfl⟩ := two (by have := congrArg List.length hl; simpa using this)
    · skip
      simp only [List.map_cons, List.map_nil, List.cons.injEq, and_true] at hl
      obtain ⟨k0, k1⟩ := hl
      rw [if_pos hs] at h ⊢
      have e : (at_ ⟨a, b, c, [v0, v1]⟩ 1) = v1 := rfl
      rw [e] at h ⊢
      cases d : nodesR v1.f3 with
      | none => rw [d] at h; cases h
      | some r =>
        obtain ⟨h1, h2⟩ := eq_nodes _ _ d
        refine eq_all ha rfl ?_
        show Eq.eqVs [strV v0.f2, allV (r.map nodeV)] [v0, v1] = true
        simp only [Eq.eqVs, eq_str k0, eq_all k1 h1 h2, if_true]
  · rw [if_neg hs] at h; cases h
theorem nodeR_len {v : V} (hv : ∀ y ∈ v.f3, y.f3.length ≤ 1000000) {x : A_} (h : nodeR v = some x) : x.f1.length ≤ 1000000 := by
  obtain ⟨a, b, c, l⟩ := v
  unfold nodeR at h
  split at h
  · rename_i hs
    obtain ⟨ha, hl⟩ := of_decide_eq_true hs
    split at h
    · split at h
      · have h := Option.some.inj h
        obtain ⟨v0, v1, v2, v3, v4, v5, rfl⟩ := six (by have := congrArg List.length hl; simpa using this)
        · skip
          subst h
          show (v1.f3.map (·.f2)).length ≤ _
          rw [List.length_map]
          exact hv v1 (by simp)
      · cases h
    · cases h
  · cases h
theorem nodesR_len : ∀ (l : List V) (r : List A_), (∀ x ∈ l, ∀ y ∈ x.f3, y.f3.length ≤ 1000000) → nodesR l = some r → r.length = l.length ∧ ∀ x ∈ r, x.f1.length ≤ 1000000
  | [], r, _, h => by
    obtain rfl := Option.some.inj h
    exact ⟨rfl, fun x hx => by cases hx⟩
  | v :: l, r, hv, h => by
    rw [nodesR] at h
    cases c : nodeR v with
    | none => rw [c] at h; cases h
    | some x =>
      rw [c] at h
      cases d : nodesR l with
      | none => rw [d] at h; cases h
      | some s =>
        rw [d] at h
        obtain rfl := Option.some.inj h
        obtain ⟨h1, h2⟩ := nodesR_len l s (fun y hy => hv y (by simp [hy])) d
        refine ⟨by simp only [List.length_cons, h1], fun y hy => ?_⟩
        rcases List.mem_cons.1 hy with rfl | hy
        · exact nodeR_len (hv v (by simp)) c
        · exact h2 y hy
/-- a workflow that was read is small -/
theorem flowR_lim {v : V} (h : Small v) : (flowR v).2.1.length ≤ 1000000 ∧ ∀ x ∈ (flowR v).2.1, x.f1.length ≤ 1000000 := by
  obtain ⟨hl0, hl⟩ := small_lim h
  unfold flowR
  by_cases hs : shapedB v.f0 v.f3 [1, 2] = true
  · rw [if_pos hs]
    cases d : nodesR (at_ v 1).f3 with
    | none => exact ⟨by simp, fun x hx => by cases hx⟩
    | some r =>
      have hm : at_ v 1 ∈ v.f3 := by
        have := congrArg List.length (of_decide_eq_true hs).2
        have hl2 : v.f3.length = 2 := by simpa using this
        show v.f3.getD 1 _ ∈ v.f3
        rw [List.getD_eq_getElem?_getD, List.getElem?_eq_getElem (by omega)]
        exact List.getElem_mem _
      obtain ⟨h1, h2⟩ := hl _ hm
      obtain ⟨h3, h4⟩ := nodesR_len _ _ h2 d
      exact ⟨by show r.length ≤ _; omega, h4⟩
  · rw [if_neg hs]
    exact ⟨by simp, fun x hx => by cases hx⟩
abbrev I := Bu.I
theorem back_j1 (l1 : List I) : ∃ K0, ∀ K, K0 ≤ K → precinctlaw12_GraphBack.j1 K l1 false = some true := by
  have hs := Bs.built_small l1
  obtain ⟨K1, h1⟩ := read_some (Bu.built l1) (small_lim hs)
  obtain ⟨hl, hd⟩ := flowR_lim hs
  obtain ⟨K2, h2⟩ := value_some (flowR (Bu.built l1)).1 (flowR (Bu.built l1)).2.1 hl hd
  refine ⟨K1 + K2 + 1, fun K hK => ?_⟩
  obtain ⟨K, rfl⟩ : ∃ m, K = m + 1 := ⟨K - 1, by omega⟩
  rw [precinctlaw12_GraphBack.j1, if_neg (by decide)]
  unfold precinctlaw12_build.f
  rw [Option.bind_some, h1 K (by omega), Option.bind_some]
  by_cases c : (flowR (Bu.built l1)).2.2 = 0
  · rw [if_pos c, h2 K (by omega), Option.bind_some]
    unfold pack_Equal.f
    rw [Option.bind_some]
    congr 1
    exact eq_flow c
  · rw [if_neg c, if_pos]
    rcases flowR_err (Bu.built l1) with h | h
    · exact absurd h c
    · exact h
theorem back_end (l1 : List I) (nm : ByteArray) (a : List A_) (hl : a.length ≤ 1000000) (hd : ∀ x ∈ a, x.f1.length ≤ 1000000) : ∃ K0, ∀ K, K0 ≤ K → precinctlaw12_GraphBack.l0 K l1 (a.all okN) a a.length a.length nm a = some true := by
  obtain ⟨K1, h1⟩ := value_some nm a hl hd
  obtain ⟨K2, h2⟩ := read_some (flowV nm a) ⟨by simp [flowV, allV], fun x hx => by
    simp only [flowV, allV, List.mem_cons, List.not_mem_nil, or_false] at hx
    rcases hx with rfl | rfl
    · exact ⟨by simp [strV], fun y hy => by simp [strV] at hy⟩
    · refine ⟨by simp; omega, fun y hy z hz => ?_⟩
      obtain ⟨n, hn, rfl⟩ := List.mem_map.1 hy
      simp only [nodeV, allV, List.mem_cons, List.not_mem_nil, or_false] at hz
      rcases hz with rfl | rfl | rfl | rfl | rfl | rfl <;> first | (simp [strV, numV]; done) | (have := hd n hn; simp; omega)⟩
  obtain ⟨K3, h3⟩ := back_j1 l1
  rw [flowR_V] at h2
  have h2' : ∀ K, K2 ≤ K → graph_Read.f K 2 0 E0 [strV nm, allV (a.map nodeV)] = some (if a.all okN = true then (nm, a, 0) else (E0, [], 4)) := h2
  refine ⟨K1 + K2 + K3 + 1, fun K hK => ?_⟩
  obtain ⟨K, rfl⟩ : ∃ m, K = m + 1 := ⟨K - 1, by omega⟩
  rw [precinctlaw12_GraphBack.l0, if_neg (by omega), h1 K (by omega), Option.bind_some]
  rw [h2' K (by omega), Option.bind_some]
  unfold precinctlaw12_wakes.f
  rw [Option.bind_some, if_pos rfl]
  cases c : a.all okN with
  | true =>
    rw [if_pos rfl, if_neg (show ¬ ((((nm, a, (0 : Int)).snd.snd == 0) != true) = true) from fun h => absurd h Bool.false_ne_true), if_pos rfl]
    show ((graph_Value.f K nm a).bind _) = _
    rw [h1 K (by omega), Option.bind_some, Option.bind_some]
    unfold pack_Equal.f
    rw [Option.bind_some, eqV_refl]
    exact h3 K (by omega)
  | false =>
    rw [if_neg (show ¬ ((((if false = true then (nm, a, (0 : Int)) else (E0, [], 4)).snd.snd == 0) != false) = true) from fun h => absurd h Bool.false_ne_true), if_neg (by decide)]
    exact h3 K (by omega)
theorem back_l0 (l1 : List I) (nm : ByteArray) (a : List A_) (hl : a.length ≤ 1000000) (hd : ∀ x ∈ a, x.f1.length ≤ 1000000) : ∀ (d i : Nat), i + d = a.length → ∃ K0, ∀ K, K0 ≤ K → precinctlaw12_GraphBack.l0 K l1 ((a.take i).all okN) a a.length i nm a = some true
  | 0, i, h => by
    obtain rfl : i = a.length := by omega
    rw [List.take_of_length_le (Nat.le_refl _)]
    exact back_end l1 nm a hl hd
  | d + 1, i, h => by
    obtain ⟨K0, h0⟩ := back_l0 l1 nm a hl hd d (i + 1) (by omega)
    have hi : i < a.length := by omega
    have e1' : wrap64 ((i : Int) + 1) = ((i + 1 : Nat) : Int) := by rw [w64 (by omega) (by omega)]; rfl
    have hr : rd_T48 a (i : Int) = a[i] := by
      unfold rd_T48
      rw [Int.toNat_natCast, List.getD_eq_getElem?_getD, List.getElem?_eq_getElem hi]; rfl
    have ht : (a.take (i + 1)).all okN = ((a.take i).all okN && okN a[i]) := by
      rw [List.take_succ_eq_append_getElem hi, List.all_append]; simp
    rw [ht] at h0
    refine ⟨K0 + 1, fun K hK => ?_⟩
    obtain ⟨K, rfl⟩ : ∃ m, K = m + 1 := ⟨K - 1, by omega⟩
    rw [precinctlaw12_GraphBack.l0, if_pos (by omega), if_pos (by omega), if_pos (by omega), hr, e1']
    have h1 := h0 K (by omega)
    cases c : (a.take i).all okN with
    | false =>
      rw [c, Bool.false_and] at h1
      rw [if_neg (by decide)]
      exact h1
    | true =>
      rw [c, Bool.true_and] at h1
      rw [if_pos rfl]
      unfold okN at h1
      by_cases c2 : inr a[i].f2 = true
      · rw [if_pos ((wrap_inr _).2 c2)]
        rw [c2, Bool.true_and] at h1
        have e : (a[i].f4 == wrap64 (wrap32 a[i].f4)) = inr a[i].f4 := by
          rw [Bool.eq_iff_iff, beq_iff_eq]
          exact wrap_inr _
        rw [e]
        exact h1
      · rw [if_neg (fun h => c2 ((wrap_inr _).1 h))]
        rw [Bool.eq_false_iff.2 c2, Bool.false_and] at h1
        exact h1
theorem deps_20 (l : List Fw.T) (i : Nat) (hi : i < (l.map Fw.toA).length) : (nd (l.map Fw.toA) i).f1.length + 1 ≤ 21 := by
  unfold nd
  rw [List.length_map] at hi
  rw [List.getD_eq_getElem?_getD, List.getElem?_map, List.getElem?_eq_getElem hi]
  show ((l[i]).f1.take 20).length + 1 ≤ 21
  rw [List.length_take]; omega
theorem back_pure (nm : ByteArray) (l : List Fw.T) (l1 : List I) : ∃ k, precinctlaw12_GraphBack.f k nm l l1 = some true := by
  have hd := deps_20 (l.take 20)
  have hl : ((l.take 20).map Fw.toA).length ≤ 20 := by rw [List.length_map, List.length_take]; omega
  unfold precinctlaw12_GraphBack.f precinctlaw12_flows.f
  simp only [Option.bind_some]
  generalize (l.take 20).map Fw.toA = a at hd hl
  obtain ⟨K0, h0⟩ := back_l0 l1 nm a (by omega) (fun x hx => by
    obtain ⟨i, hi, rfl⟩ := List.mem_iff_getElem.1 hx
    have := hd i hi
    unfold nd at this
    rw [List.getD_eq_getElem?_getD, List.getElem?_eq_getElem hi, Option.getD_some] at this
    omega) a.length 0 (by omega)
  exact ⟨K0, h0 K0 (Nat.le_refl _)⟩
end Go.Proofs.Ytjicfkmpgogppaa.Gv
